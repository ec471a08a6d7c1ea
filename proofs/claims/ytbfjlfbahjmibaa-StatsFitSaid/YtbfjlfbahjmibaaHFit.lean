/- StatsFit's contract: the text that wip/pr.py prints, cut by a program (wip/prune.py) to the ways on which every test holds: elsewhere f tells nothing. -/
import Derived.Test.YtbfjlfbahjmibaaPr0
import Derived.Test.YtbfjlfbahjmibaaPr18
import Derived.Test.YtbfjlfbahjmibaaPr50
import Derived.Test.YtbfjlfbahjmibaaPr51
import Derived.Test.YtbfjlfbahjmibaaPr52
import Derived.Test.YtbfjlfbahjmibaaPr53
namespace Go.Proofs.Ytbfjlfbahjmibaa.Pr
open Go.RowKit Go.Proofs.YtbfjlfbahjmibaaW.PrintWords Go.Proofs.YtbfjlfbahjmibaaW.PrintLast Go.Proofs.YtbfjlfbahjmibaaW.PrintMore
attribute [local go_sem] max2_int min2_int max_two min_two max_three min_three max_four min_four   -- for this text's walks alone
set_option linter.unusedVariables false
set_option linter.unusedSimpArgs false

theorem eqA54 (d : Nat) (w : World) (x0 y0 : Int) (x1 y1 : Int) (x2 y2 : Int) (x3 y3 : Int) (x4 y4 : Int) (x5 y5 : Int) :
    (Op.equalIn (d + 2) 54 (.agg #[.int .i64 x0, .int .i64 x1, .int .i64 x2, .int .i64 x3, .int .i64 x4, .int .i64 x5]) (.agg #[.int .i64 y0, .int .i64 y1, .int .i64 y2, .int .i64 y3, .int .i64 y4, .int .i64 y5])).run Try.prog w = .ok (x0 == y0 && (x1 == y1 && (x2 == y2 && (x3 == y3 && (x4 == y4 && (x5 == y5)))))) w := by
  refine eqA_of Try.underlying54 (by kernel_rfl) ?_
  refine eqf_cons (by rfl) (by go_simp; rfl) (by go_simp; rfl) (by go_simp) ?_
  refine eqf_cons (by rfl) (by go_simp; rfl) (by go_simp; rfl) (by go_simp) ?_
  refine eqf_cons (by rfl) (by go_simp; rfl) (by go_simp; rfl) (by go_simp) ?_
  refine eqf_cons (by rfl) (by go_simp; rfl) (by go_simp; rfl) (by go_simp) ?_
  refine eqf_cons (by rfl) (by go_simp; rfl) (by go_simp; rfl) (by go_simp) ?_
  exact eqf_last (by rfl) (by go_simp; rfl) (by go_simp; rfl) (by go_simp)
attribute [local go_sem high] eqA54
/-! ### gluepotlaw23_StatsFit: function 8 -/
def gluepotlaw23_StatsFit.j0 : Nat → Int → Bool → Int → Int → Int → Int → Int → Int → Int → Int → Int → Int → Int → Int → Option (Bool)
  | 0, _, _, _, _, _, _, _, _, _, _, _, _, _, _ => none
  | k + 1, x2, x16, x389000, x389001, x389002, x389003, x389004, x389005, x390000, x390001, x390002, x390003, x390004, x390005 => if x16 = true then (some true) else ((stats_Total.f k (([(⟨x389000, x389001, x389002, x389003, x389004, x389005⟩ : S54), (⟨x390000, x390001, x390002, x390003, x390004, x390005⟩ : S54)] : List (S54)))).bind fun bt396 => ((stats_Fits.f k x389000 x389001 x389002 x389003 x389004 x389005 x2).bind fun t404 => ((gluepotref23_Fits.f x389000 x389001 x389002 x389003 x389004 x389005 x2).bind fun t405 => (if (t404 == t405) = true then (if (bt396.1 == (wrap64 (x389000 + x390000)) && (bt396.2.1 == (wrap64 (x389001 + x390001)) && (bt396.2.2.1 == (wrap64 (x389002 + x390002)) && (bt396.2.2.2.1 == (wrap64 (x389003 + x390003)) && (bt396.2.2.2.2.1 == (mx x389004 x390004) && (bt396.2.2.2.2.2 == (wrap64 (x389005 + x390005)))))))) = true then ((stats_Total.f k ([] : List (S54))).bind fun bt406 => (if (bt406.1 == 0 && (bt406.2.1 == 0 && (bt406.2.2.1 == 0 && (bt406.2.2.2.1 == 0 && (bt406.2.2.2.2.1 == 0 && (bt406.2.2.2.2.2 == 0)))))) = true then ((stats_Total.f k (([(⟨x389000, x389001, x389002, x389003, x389004, x389005⟩ : S54)] : List (S54)))).bind fun bt415 => (if (bt415.1 == x389000 && (bt415.2.1 == x389001 && (bt415.2.2.1 == x389002 && (bt415.2.2.2.1 == x389003 && (bt415.2.2.2.2.1 == x389004 && (bt415.2.2.2.2.2 == x389005)))))) = true then ((stats_Total.f k (([(⟨x390000, x390001, x390002, x390003, x390004, x390005⟩ : S54), (⟨x389000, x389001, x389002, x389003, x389004, x389005⟩ : S54)] : List (S54)))).bind fun bt424 => (if (bt424.1 == (wrap64 (x389000 + x390000)) && (bt424.2.1 == (wrap64 (x389001 + x390001)) && (bt424.2.2.1 == (wrap64 (x389002 + x390002)) && (bt424.2.2.2.1 == (wrap64 (x389003 + x390003)) && (bt424.2.2.2.2.1 == (mx x389004 x390004) && (bt424.2.2.2.2.2 == (wrap64 (x389005 + x390005)))))))) = true then ((stats_Total.f k (([(⟨x389000, x389001, x389002, x389003, x389004, x389005⟩ : S54), (⟨x390000, x390001, x390002, x390003, x390004, x390005⟩ : S54), (⟨0, 0, 0, 0, mx x389004 x390004, 0⟩ : S54)] : List (S54)))).bind fun bt433 => (some (bt433.1 == (wrap64 (x389000 + x390000)) && (bt433.2.1 == (wrap64 (x389001 + x390001)) && (bt433.2.2.1 == (wrap64 (x389002 + x390002)) && (bt433.2.2.2.1 == (wrap64 (x389003 + x390003)) && (bt433.2.2.2.2.1 == (mx x389004 x390004) && (bt433.2.2.2.2.2 == (wrap64 (x389005 + x390005)))))))))) else none)) else none)) else none)) else none) else none))))
def gluepotlaw23_StatsFit.f (k : Nat) (a0_0 : Int) (a0_1 : Int) (a0_2 : Int) (a0_3 : Int) (a0_4 : Int) (a0_5 : Int) (a1_0 : Int) (a1_1 : Int) (a1_2 : Int) (a1_3 : Int) (a1_4 : Int) (a1_5 : Int) (a2 : Int) : Option (Bool) := (gluepotlaw23_awake.f k).bind fun t390 => (if t390 = true then ((gluepotlaw23_far.f k a0_0 a0_1 a0_2 a0_3 a0_4 a0_5).bind fun t391 => (if t391 = true then (gluepotlaw23_StatsFit.j0 k a2 true a0_0 a0_1 a0_2 a0_3 a0_4 a0_5 a1_0 a1_1 a1_2 a1_3 a1_4 a1_5) else ((gluepotlaw23_far.f k a1_0 a1_1 a1_2 a1_3 a1_4 a1_5).bind fun t392 => (gluepotlaw23_StatsFit.j0 k a2 t392 a0_0 a0_1 a0_2 a0_3 a0_4 a0_5 a1_0 a1_1 a1_2 a1_3 a1_4 a1_5)))) else none)
theorem gluepotlaw23_StatsFit.mono_l : ∀ k, (∀ y0 y1 y2 y3 y4 y5 y6 y7 y8 y9 y10 y11 y12 y13, LeO (gluepotlaw23_StatsFit.j0 k y0 y1 y2 y3 y4 y5 y6 y7 y8 y9 y10 y11 y12 y13) (gluepotlaw23_StatsFit.j0 (k + 1) y0 y1 y2 y3 y4 y5 y6 y7 y8 y9 y10 y11 y12 y13))
  | 0 => fun _ _ _ _ _ _ _ _ _ _ _ _ _ _ r h => by simp [gluepotlaw23_StatsFit.j0] at h
  | k + 1 => by
    have ih0 := gluepotlaw23_StatsFit.mono_l k
    · intro y0 y1 y2 y3 y4 y5 y6 y7 y8 y9 y10 y11 y12 y13
      unfold gluepotlaw23_StatsFit.j0
      repeat' first
      | (with_reducible exact ih0 _ _ _ _ _ _ _ _ _ _ _ _ _ _)
      | (with_reducible exact gluepotlaw23_awake.mono _)
      | (with_reducible exact gluepotlaw23_far.mono _ _ _ _ _ _ _)
      | (with_reducible exact stats_Fits.mono _ _ _ _ _ _ _ _)
      | (with_reducible exact stats_Total.mono _ _)
      | (with_reducible exact LeO.refl _)
      | (with_reducible exact LeO.none _)
      | (with_reducible refine LeO.ite ?_ ?_)
      | (with_reducible refine LeO.bind ?_ (fun _ => ?_))
      | exact ih0 _ _ _ _ _ _ _ _ _ _ _ _ _ _
      | exact gluepotlaw23_awake.mono _
      | exact gluepotlaw23_far.mono _ _ _ _ _ _ _
      | exact stats_Fits.mono _ _ _ _ _ _ _ _
      | exact stats_Total.mono _ _
      | exact LeO.none _
      | refine LeO.ite ?_ ?_
      | refine LeO.bind ?_ (fun _ => ?_)
theorem gluepotlaw23_StatsFit.mono : ∀ a0 a1 a2 a3 a4 a5 a6 a7 a8 a9 a10 a11 a12 k, LeO (gluepotlaw23_StatsFit.f k a0 a1 a2 a3 a4 a5 a6 a7 a8 a9 a10 a11 a12) (gluepotlaw23_StatsFit.f (k + 1) a0 a1 a2 a3 a4 a5 a6 a7 a8 a9 a10 a11 a12) := by
  intro a0 a1 a2 a3 a4 a5 a6 a7 a8 a9 a10 a11 a12 k
  have ih0 := gluepotlaw23_StatsFit.mono_l k
  unfold gluepotlaw23_StatsFit.f
  repeat' first
      | (with_reducible exact ih0 _ _ _ _ _ _ _ _ _ _ _ _ _ _)
      | (with_reducible exact gluepotlaw23_awake.mono _)
      | (with_reducible exact gluepotlaw23_far.mono _ _ _ _ _ _ _)
      | (with_reducible exact stats_Fits.mono _ _ _ _ _ _ _ _)
      | (with_reducible exact stats_Total.mono _ _)
      | (with_reducible exact LeO.refl _)
      | (with_reducible exact LeO.none _)
      | (with_reducible refine LeO.ite ?_ ?_)
      | (with_reducible refine LeO.bind ?_ (fun _ => ?_))
      | exact ih0 _ _ _ _ _ _ _ _ _ _ _ _ _ _
      | exact gluepotlaw23_awake.mono _
      | exact gluepotlaw23_far.mono _ _ _ _ _ _ _
      | exact stats_Fits.mono _ _ _ _ _ _ _ _
      | exact stats_Total.mono _ _
      | exact LeO.none _
      | refine LeO.ite ?_ ?_
      | refine LeO.bind ?_ (fun _ => ?_)
def gluepotlaw23_StatsFit.T7 : Bool × List (List Nat × List Nat) := (true, [([], []), ([], []), ([0, 1], [0, 1]), ([], []), ([], []), ([3, 4, 2], [3, 4]), ([2, 5], [2, 5]), ([6, 5], [6]), ([7], [7]), ([7], [7]), ([8, 9, 7], [7, 8, 9]), ([7, 10], [7, 10]), ([11, 7], [11]), ([12, 12], [12]), ([12], [12]), ([13, 14, 12], [12, 13, 14]), ([12, 15], [12, 15]), ([16, 13], [16]), ([17], [17]), ([18, 17], [17, 18]), ([19, 17, 17], [17, 19]), ([17], [17]), ([20, 21, 17], [17, 20, 21]), ([17, 22], [17, 22]), ([23, 20], [23]), ([24], [24]), ([24], [24]), ([25, 26, 24], [24, 25, 26]), ([27, 24, 24], [24, 27]), ([24], [24]), ([28, 29, 24], [24, 28, 29]), ([24, 30], [24, 30]), ([31, 28], [31]), ([32], [32]), ([32], [32]), ([32], [32]), ([35, 32], [32, 35]), ([32], [32]), ([37, 32], [32, 37]), ([36, 38, 32], [32, 36, 38]), ([39, 32], [32, 39]), ([33, 34, 40, 32], [32, 33, 34, 40]), ([41, 32, 32], [32, 41]), ([32], [32]), ([42, 43, 32], [32, 42, 43]), ([32, 44], [32, 44]), ([45, 42, 0, 1, 2, 3, 4, 5, 6, 7, 8, 9, 10, 11, 12, 13, 14, 15, 16, 17, 18, 19, 20, 21, 22, 23, 24, 25, 26, 27, 28, 29, 30, 31, 32, 33, 34, 35, 36, 37, 38, 39, 40, 41, 42, 43, 44, 45], [45])])
def gluepotlaw23_StatsFit.B7 : List Nat := [0, 0, 3, 0, 0, 31, 63, 127, 255, 255, 1023, 2047, 4095, 8191, 8191, 32767, 65535, 131071, 262143, 524287, 1048575, 262143, 4194303, 8388607, 16777215, 33554431, 33554431, 134217727, 268435455, 33554431, 1073741823, 2147483647, 4294967295, 8589934591, 8589934591, 8589934591, 42949672959, 8589934591, 146028888063, 523986010111, 1073741823999, 2199023255551, 4398046511103, 8589934591, 17592186044415, 35184372088831, 70368744177663]
theorem gluepotlaw23_StatsFit.tab7 : rtab .any (opsOf Try.f8 7) = gluepotlaw23_StatsFit.T7 := by kernel_rfl
theorem gluepotlaw23_StatsFit.bits7 : waitsOk gluepotlaw23_StatsFit.T7.2 gluepotlaw23_StatsFit.B7 = true := by kernel_rfl
set_option maxHeartbeats 8000000 in
set_option maxRecDepth 100000 in
theorem gluepotlaw23_StatsFit.calls (k : Nat) (a0_0 : Int) (a0_1 : Int) (a0_2 : Int) (a0_3 : Int) (a0_4 : Int) (a0_5 : Int) (a1_0 : Int) (a1_1 : Int) (a1_2 : Int) (a1_3 : Int) (a1_4 : Int) (a1_5 : Int) (a2 : Int) (r : Bool) (w : World) (h : gluepotlaw23_StatsFit.f k a0_0 a0_1 a0_2 a0_3 a0_4 a0_5 a1_0 a1_1 a1_2 a1_3 a1_4 a1_5 a2 = some r) :
    Calls Try.prog 8 #[.agg #[.int .i64 a0_0, .int .i64 a0_1, .int .i64 a0_2, .int .i64 a0_3, .int .i64 a0_4, .int .i64 a0_5], .agg #[.int .i64 a1_0, .int .i64 a1_1, .int .i64 a1_2, .int .i64 a1_3, .int .i64 a1_4, .int .i64 a1_5], .int .i64 a2] w fun e w' => e = .returned (.bool r) ∧ Below w.heap.size w w' := by
  have hu54 := Try.underlying54
  have HB := Aside0.mk (Below.refl w.heap.size w)
  have H : ((gluepotlaw23_awake.f k).bind fun t390 => (if t390 = true then ((gluepotlaw23_far.f k a0_0 a0_1 a0_2 a0_3 a0_4 a0_5).bind fun t391 => (if t391 = true then (gluepotlaw23_StatsFit.j0 k a2 true a0_0 a0_1 a0_2 a0_3 a0_4 a0_5 a1_0 a1_1 a1_2 a1_3 a1_4 a1_5) else ((gluepotlaw23_far.f k a1_0 a1_1 a1_2 a1_3 a1_4 a1_5).bind fun t392 => (gluepotlaw23_StatsFit.j0 k a2 t392 a0_0 a0_1 a0_2 a0_3 a0_4 a0_5 a1_0 a1_1 a1_2 a1_3 a1_4 a1_5)))) else none)) = some r := h
  clear h
  replace H := Option.bind_eq_some_iff.mp H
  obtain ⟨t390, A40, H⟩ := H
  replace H : (if t390 = true then ((gluepotlaw23_far.f k a0_0 a0_1 a0_2 a0_3 a0_4 a0_5).bind fun t391 => (if t391 = true then (gluepotlaw23_StatsFit.j0 k a2 true a0_0 a0_1 a0_2 a0_3 a0_4 a0_5 a1_0 a1_1 a1_2 a1_3 a1_4 a1_5) else ((gluepotlaw23_far.f k a1_0 a1_1 a1_2 a1_3 a1_4 a1_5).bind fun t392 => (gluepotlaw23_StatsFit.j0 k a2 t392 a0_0 a0_1 a0_2 a0_3 a0_4 a0_5 a1_0 a1_1 a1_2 a1_3 a1_4 a1_5)))) else none) = some r := H
  have A4 := Aside0.mk A40
  clear A40
  by_cases c5 : t390 = true
  · subst c5
    have H1 : ((gluepotlaw23_far.f k a0_0 a0_1 a0_2 a0_3 a0_4 a0_5).bind fun t391 => (if t391 = true then (gluepotlaw23_StatsFit.j0 k a2 true a0_0 a0_1 a0_2 a0_3 a0_4 a0_5 a1_0 a1_1 a1_2 a1_3 a1_4 a1_5) else ((gluepotlaw23_far.f k a1_0 a1_1 a1_2 a1_3 a1_4 a1_5).bind fun t392 => (gluepotlaw23_StatsFit.j0 k a2 t392 a0_0 a0_1 a0_2 a0_3 a0_4 a0_5 a1_0 a1_1 a1_2 a1_3 a1_4 a1_5)))) = some r := by rw [if_pos rfl] at H; exact H
    clear H
    have H := H1
    clear H1
    have HC6 := Aside0.mk H
    clear H
    go_enter Try.func8, Try.ntmps8
    go_upto_region 3 with (first | ((with_reducible refine gate_dst (N := 3) rfl ?_); (try (refine gate_guard (by rfl) ?_; dsimp only)); refine box_event ?hg (N := 3) ?hd (cs := #[.int .i64 a0_0, .int .i64 a0_1, .int .i64 a0_2, .int .i64 a0_3, .int .i64 a0_4, .int .i64 a0_5]) (t := 54) ?hr ?_; (case hd => rfl); (case hg => rfl); (case hr => first | (go_simp; done) | (go_simp; rfl)); intro gb388 hg w7 hbox hb; have n0_ := Aside0.mk (below_step (by repeat (first | (with_reducible first | exact HB.out | apply below_alloc | apply pw_below_drewN | apply below_drew1) | exact HB.out)) hb); have n1_ := Aside0.mk (hbox); have n2_ := Aside0.mk ((by rw [hg]; exact (below_size (by repeat (first | (with_reducible first | exact HB.out | apply below_alloc | apply pw_below_drewN | apply below_drew1) | exact HB.out))) : w.heap.size ≤ gb388)); have n3_ := Aside0.mk ((by rw [hg]; exact (below_size (by repeat (first | (with_reducible first | exact HB.out | apply below_alloc | apply pw_below_drewN | apply below_drew1) | exact HB.out))) : w.heap.size ≤ gb388)); clear HB; have HB := n0_; have BK388 := n1_; have GW388 := n2_; have GE388 := n3_; clear n0_ n1_ n2_ n3_; clear hb hbox hg) | ((with_reducible refine gate_dst (N := 4) rfl ?_); (try (refine gate_guard (by rfl) ?_; dsimp only)); refine box_event ?hg (N := 4) ?hd (cs := #[.int .i64 a1_0, .int .i64 a1_1, .int .i64 a1_2, .int .i64 a1_3, .int .i64 a1_4, .int .i64 a1_5]) (t := 54) ?hr ?_; (case hd => rfl); (case hg => rfl); (case hr => first | (go_simp; done) | (go_simp; rfl)); intro gb389 hg w8 hbox hb; have n0_ := Aside0.mk (blk_below (g := gb388) (o := .cells #[.int .i64 a0_0, .int .i64 a0_1, .int .i64 a0_2, .int .i64 a0_3, .int .i64 a0_4, .int .i64 a0_5] 54 (0, 0)) (by (with_reducible repeat (first | refine blk_drewN ?_ _ | refine blk_drew ?_ | refine blk_alloc ?_ _)); exact BK388.out) hb); have n1_ := Aside0.mk (below_step (by repeat (first | (with_reducible first | exact HB.out | apply below_alloc | apply pw_below_drewN | apply below_drew1 | refine below_set ?_ GE388.out) | exact HB.out)) hb); have n2_ := Aside0.mk (hbox); have n3_ := Aside0.mk ((by rw [hg]; exact (below_size (by repeat (first | (with_reducible first | exact HB.out | apply below_alloc | apply pw_below_drewN | apply below_drew1 | refine below_set ?_ GE388.out) | exact HB.out))) : w.heap.size ≤ gb389)); have n4_ := Aside0.mk ((by rw [hg]; exact (below_size (by repeat (first | (with_reducible first | exact HB.out | apply below_alloc | apply pw_below_drewN | apply below_drew1 | refine below_set ?_ GE388.out) | exact HB.out))) : w.heap.size ≤ gb389)); have n5_ := Aside0.mk ((by rw [hg]; exact Nat.ne_of_lt (blk_lt (g := gb388) (o := .cells #[.int .i64 a0_0, .int .i64 a0_1, .int .i64 a0_2, .int .i64 a0_3, .int .i64 a0_4, .int .i64 a0_5] 54 (0, 0)) (by (with_reducible repeat (first | refine blk_drewN ?_ _ | refine blk_drew ?_ | refine blk_alloc ?_ _)); exact BK388.out)) : gb388 ≠ gb389)); have n6_ := Aside0.mk ((by rw [hg]; exact Nat.ne_of_gt (blk_lt (g := gb388) (o := .cells #[.int .i64 a0_0, .int .i64 a0_1, .int .i64 a0_2, .int .i64 a0_3, .int .i64 a0_4, .int .i64 a0_5] 54 (0, 0)) (by (with_reducible repeat (first | refine blk_drewN ?_ _ | refine blk_drew ?_ | refine blk_alloc ?_ _)); exact BK388.out)) : gb389 ≠ gb388)); clear BK388; clear HB; have BK388 := n0_; have HB := n1_; have BK389 := n2_; have GW389 := n3_; have GE389 := n4_; have NB388_389 := n5_; have NB389_388 := n6_; clear n0_ n1_ n2_ n3_ n4_ n5_ n6_; clear hb hbox hg) | ((with_reducible refine gate_callee (f := 9) rfl ?_); refine goesL_ (some 9) rfl rfl Try.func9 (by kernel_rfl) rfl #[] rfl (by (try simp only [List.map_toArray, List.map_cons, List.map_nil]); first | done | rfl | (simp only [List.length_drop, List.length_take]; rfl)) ?_; (with_reducible refine (gluepotlaw23_awake.calls k  true _ A4.out).mono ?_); rintro e w9 ⟨rfl, hb⟩; refine ⟨_, rfl, ?_⟩; have n0_ := Aside0.mk (blk_below (g := gb388) (o := .cells #[.int .i64 a0_0, .int .i64 a0_1, .int .i64 a0_2, .int .i64 a0_3, .int .i64 a0_4, .int .i64 a0_5] 54 (0, 0)) (by (with_reducible repeat (first | refine blk_drewN ?_ _ | refine blk_drew ?_ | refine blk_alloc ?_ _)); exact BK388.out) hb); have n1_ := Aside0.mk (blk_below (g := gb389) (o := .cells #[.int .i64 a1_0, .int .i64 a1_1, .int .i64 a1_2, .int .i64 a1_3, .int .i64 a1_4, .int .i64 a1_5] 54 (0, 0)) (by (with_reducible repeat (first | refine blk_drewN ?_ _ | refine blk_drew ?_ | refine blk_alloc ?_ _)); exact BK389.out) hb); have n2_ := Aside0.mk (below_step (by repeat (first | (with_reducible first | exact HB.out | apply below_alloc | apply pw_below_drewN | apply below_drew1 | refine below_set ?_ GE388.out | refine below_set ?_ GE389.out) | exact HB.out)) hb); clear BK388; clear BK389; clear HB; have BK388 := n0_; have BK389 := n1_; have HB := n2_; clear n0_ n1_ n2_; (try clear hb); (try clear hb2); (try clear hk); (try clear hi)))
    (try simp only [Act.put, List.setIfInBounds_toArray, List.set_cons_zero, List.set_cons_succ])
    go_cut [16] (fun v16 wc => ∃ (kq : Nat) (x16_5 : Bool), v16 = .bool x16_5 ∧ Aside0 (gluepotlaw23_StatsFit.j0 kq a2 x16_5 a0_0 a0_1 a0_2 a0_3 a0_4 a0_5 a1_0 a1_1 a1_2 a1_3 a1_4 a1_5 = some r) ∧ Aside0 (kq ≤ k) ∧ Aside0 (wc.heap[gb388]? = some (.cells #[.int .i64 a0_0, .int .i64 a0_1, .int .i64 a0_2, .int .i64 a0_3, .int .i64 a0_4, .int .i64 a0_5] 54 (0, 0))) ∧ Aside0 (wc.heap[gb389]? = some (.cells #[.int .i64 a1_0, .int .i64 a1_1, .int .i64 a1_2, .int .i64 a1_3, .int .i64 a1_4, .int .i64 a1_5] 54 (0, 0))) ∧ Aside0 (Below w.heap.size w wc))
    case first =>
      have H := HC6.out
      clear HC6
      replace H := Option.bind_eq_some_iff.mp H
      obtain ⟨t391, A100, H⟩ := H
      replace H : (if t391 = true then (gluepotlaw23_StatsFit.j0 k a2 true a0_0 a0_1 a0_2 a0_3 a0_4 a0_5 a1_0 a1_1 a1_2 a1_3 a1_4 a1_5) else ((gluepotlaw23_far.f k a1_0 a1_1 a1_2 a1_3 a1_4 a1_5).bind fun t392 => (gluepotlaw23_StatsFit.j0 k a2 t392 a0_0 a0_1 a0_2 a0_3 a0_4 a0_5 a1_0 a1_1 a1_2 a1_3 a1_4 a1_5))) = some r := H
      have A10 := Aside0.mk A100
      clear A100
      by_cases c11 : t391 = true
      · subst c11
        have H1 : (gluepotlaw23_StatsFit.j0 k a2 true a0_0 a0_1 a0_2 a0_3 a0_4 a0_5 a1_0 a1_1 a1_2 a1_3 a1_4 a1_5) = some r := by rw [if_pos rfl] at H; exact H
        clear H
        have H := H1
        clear H1
        have H' := Aside0.mk H
        clear H
        have hnb12 := NB388_389.out
        have hnc12 := NB389_388.out
        have hcz13_0 : w9.cell? ⟨gb388, 0, none⟩ = some (.int .i64 a0_0) := (blk_cell BK388.out 0).trans rfl
        have hcz13_1 : w9.cell? ⟨gb388, 1, none⟩ = some (.int .i64 a0_1) := (blk_cell BK388.out 1).trans rfl
        have hcz13_2 : w9.cell? ⟨gb388, 2, none⟩ = some (.int .i64 a0_2) := (blk_cell BK388.out 2).trans rfl
        have hcz13_3 : w9.cell? ⟨gb388, 3, none⟩ = some (.int .i64 a0_3) := (blk_cell BK388.out 3).trans rfl
        have hcz13_4 : w9.cell? ⟨gb388, 4, none⟩ = some (.int .i64 a0_4) := (blk_cell BK388.out 4).trans rfl
        have hcz13_5 : w9.cell? ⟨gb388, 5, none⟩ = some (.int .i64 a0_5) := (blk_cell BK388.out 5).trans rfl
        have hfz13_0 := blk_frozen BK388.out 0
        have hfz13_1 := blk_frozen BK388.out 1
        have hfz13_2 := blk_frozen BK388.out 2
        have hfz13_3 := blk_frozen BK388.out 3
        have hfz13_4 := blk_frozen BK388.out 4
        have hfz13_5 := blk_frozen BK388.out 5
        go_wp2_with (first | ((with_reducible refine gate_callee (f := 30) rfl ?_); refine goesL_ (some 12) rfl rfl Try.func30 (by kernel_rfl) rfl #[.agg #[.int .i64 a0_0, .int .i64 a0_1, .int .i64 a0_2, .int .i64 a0_3, .int .i64 a0_4, .int .i64 a0_5]] rfl (by (try simp only [List.map_toArray, List.map_cons, List.map_nil]); first | done | rfl | (simp only [List.length_drop, List.length_take]; rfl)) ?_; (with_reducible refine (gluepotlaw23_far.calls k a0_0 a0_1 a0_2 a0_3 a0_4 a0_5 true _ A10.out).mono ?_); rintro e w14 ⟨rfl, hb⟩; refine ⟨_, rfl, ?_⟩; have n0_ := Aside0.mk (blk_below (g := gb388) (o := .cells #[.int .i64 a0_0, .int .i64 a0_1, .int .i64 a0_2, .int .i64 a0_3, .int .i64 a0_4, .int .i64 a0_5] 54 (0, 0)) (by (with_reducible repeat (first | refine blk_drewN ?_ _ | refine blk_drew ?_ | refine blk_alloc ?_ _)); exact BK388.out) hb); have n1_ := Aside0.mk (blk_below (g := gb389) (o := .cells #[.int .i64 a1_0, .int .i64 a1_1, .int .i64 a1_2, .int .i64 a1_3, .int .i64 a1_4, .int .i64 a1_5] 54 (0, 0)) (by (with_reducible repeat (first | refine blk_drewN ?_ _ | refine blk_drew ?_ | refine blk_alloc ?_ _)); exact BK389.out) hb); have n2_ := Aside0.mk (below_step (by repeat (first | (with_reducible first | exact HB.out | apply below_alloc | apply pw_below_drewN | apply below_drew1 | refine below_set ?_ GE388.out | refine below_set ?_ GE389.out) | exact HB.out)) hb); clear BK388; clear BK389; clear HB; have BK388 := n0_; have BK389 := n1_; have HB := n2_; clear n0_ n1_ n2_; (try clear hb); (try clear hb2); (try clear hk); (try clear hi)))
        go_meet
        case rel => exact ⟨_, (true), (by first | rfl | (simp; done) | (simp [*]; done)), H', ⟨by first | omega | exact Nat.le_refl _⟩, ⟨by (with_reducible repeat (first | refine blk_drewN ?_ _ | refine blk_drew ?_ | refine blk_alloc ?_ _)); exact BK388.out⟩, ⟨by (with_reducible repeat (first | refine blk_drewN ?_ _ | refine blk_drew ?_ | refine blk_alloc ?_ _)); exact BK389.out⟩, ⟨by repeat (first | (with_reducible first | exact HB.out | apply below_alloc | apply pw_below_drewN | apply below_drew1 | refine below_set ?_ GE388.out | refine below_set ?_ GE389.out) | exact HB.out)⟩⟩
      · replace c11 := Bool.eq_false_iff.mpr c11
        subst c11
        have H1 : ((gluepotlaw23_far.f k a1_0 a1_1 a1_2 a1_3 a1_4 a1_5).bind fun t392 => (gluepotlaw23_StatsFit.j0 k a2 t392 a0_0 a0_1 a0_2 a0_3 a0_4 a0_5 a1_0 a1_1 a1_2 a1_3 a1_4 a1_5)) = some r := by rw [if_neg (show ¬ (false = true) by decide)] at H; exact H
        clear H
        have H := H1
        clear H1
        replace H := Option.bind_eq_some_iff.mp H
        obtain ⟨t392, A150, H⟩ := H
        replace H : (gluepotlaw23_StatsFit.j0 k a2 t392 a0_0 a0_1 a0_2 a0_3 a0_4 a0_5 a1_0 a1_1 a1_2 a1_3 a1_4 a1_5) = some r := H
        have A15 := Aside0.mk A150
        clear A150
        have H' := Aside0.mk H
        clear H
        have hnb16 := NB388_389.out
        have hnc16 := NB389_388.out
        have hcz17_0 : w9.cell? ⟨gb388, 0, none⟩ = some (.int .i64 a0_0) := (blk_cell BK388.out 0).trans rfl
        have hcz17_1 : w9.cell? ⟨gb388, 1, none⟩ = some (.int .i64 a0_1) := (blk_cell BK388.out 1).trans rfl
        have hcz17_2 : w9.cell? ⟨gb388, 2, none⟩ = some (.int .i64 a0_2) := (blk_cell BK388.out 2).trans rfl
        have hcz17_3 : w9.cell? ⟨gb388, 3, none⟩ = some (.int .i64 a0_3) := (blk_cell BK388.out 3).trans rfl
        have hcz17_4 : w9.cell? ⟨gb388, 4, none⟩ = some (.int .i64 a0_4) := (blk_cell BK388.out 4).trans rfl
        have hcz17_5 : w9.cell? ⟨gb388, 5, none⟩ = some (.int .i64 a0_5) := (blk_cell BK388.out 5).trans rfl
        have hfz17_0 := blk_frozen BK388.out 0
        have hfz17_1 := blk_frozen BK388.out 1
        have hfz17_2 := blk_frozen BK388.out 2
        have hfz17_3 := blk_frozen BK388.out 3
        have hfz17_4 := blk_frozen BK388.out 4
        have hfz17_5 := blk_frozen BK388.out 5
        go_wp2_with (first | ((with_reducible refine gate_callee (f := 30) rfl ?_); refine goesL_ (some 12) rfl rfl Try.func30 (by kernel_rfl) rfl #[.agg #[.int .i64 a0_0, .int .i64 a0_1, .int .i64 a0_2, .int .i64 a0_3, .int .i64 a0_4, .int .i64 a0_5]] rfl (by (try simp only [List.map_toArray, List.map_cons, List.map_nil]); first | done | rfl | (simp only [List.length_drop, List.length_take]; rfl)) ?_; (with_reducible refine (gluepotlaw23_far.calls k a0_0 a0_1 a0_2 a0_3 a0_4 a0_5 false _ A10.out).mono ?_); rintro e w18 ⟨rfl, hb⟩; refine ⟨_, rfl, ?_⟩; have n0_ := Aside0.mk (blk_below (g := gb388) (o := .cells #[.int .i64 a0_0, .int .i64 a0_1, .int .i64 a0_2, .int .i64 a0_3, .int .i64 a0_4, .int .i64 a0_5] 54 (0, 0)) (by (with_reducible repeat (first | refine blk_drewN ?_ _ | refine blk_drew ?_ | refine blk_alloc ?_ _)); exact BK388.out) hb); have n1_ := Aside0.mk (blk_below (g := gb389) (o := .cells #[.int .i64 a1_0, .int .i64 a1_1, .int .i64 a1_2, .int .i64 a1_3, .int .i64 a1_4, .int .i64 a1_5] 54 (0, 0)) (by (with_reducible repeat (first | refine blk_drewN ?_ _ | refine blk_drew ?_ | refine blk_alloc ?_ _)); exact BK389.out) hb); have n2_ := Aside0.mk (below_step (by repeat (first | (with_reducible first | exact HB.out | apply below_alloc | apply pw_below_drewN | apply below_drew1 | refine below_set ?_ GE388.out | refine below_set ?_ GE389.out) | exact HB.out)) hb); clear BK388; clear BK389; clear HB; have BK388 := n0_; have BK389 := n1_; have HB := n2_; clear n0_ n1_ n2_; (try clear hb); (try clear hb2); (try clear hk); (try clear hi); have hcz19_0 : w18.cell? ⟨gb389, 0, none⟩ = some (.int .i64 a1_0) := (blk_cell BK389.out 0).trans rfl; have hcz19_1 : w18.cell? ⟨gb389, 1, none⟩ = some (.int .i64 a1_1) := (blk_cell BK389.out 1).trans rfl; have hcz19_2 : w18.cell? ⟨gb389, 2, none⟩ = some (.int .i64 a1_2) := (blk_cell BK389.out 2).trans rfl; have hcz19_3 : w18.cell? ⟨gb389, 3, none⟩ = some (.int .i64 a1_3) := (blk_cell BK389.out 3).trans rfl; have hcz19_4 : w18.cell? ⟨gb389, 4, none⟩ = some (.int .i64 a1_4) := (blk_cell BK389.out 4).trans rfl; have hcz19_5 : w18.cell? ⟨gb389, 5, none⟩ = some (.int .i64 a1_5) := (blk_cell BK389.out 5).trans rfl; have hfz19_0 := blk_frozen BK389.out 0; have hfz19_1 := blk_frozen BK389.out 1; have hfz19_2 := blk_frozen BK389.out 2; have hfz19_3 := blk_frozen BK389.out 3; have hfz19_4 := blk_frozen BK389.out 4; have hfz19_5 := blk_frozen BK389.out 5) | (go_at_call 30; (with_reducible refine (gluepotlaw23_far.calls k a1_0 a1_1 a1_2 a1_3 a1_4 a1_5 t392 _ A15.out).mono ?_); rintro e w20 ⟨rfl, hb⟩; have n0_ := Aside0.mk (blk_below (g := gb388) (o := .cells #[.int .i64 a0_0, .int .i64 a0_1, .int .i64 a0_2, .int .i64 a0_3, .int .i64 a0_4, .int .i64 a0_5] 54 (0, 0)) (by (with_reducible repeat (first | refine blk_drewN ?_ _ | refine blk_drew ?_ | refine blk_alloc ?_ _)); exact BK388.out) hb); have n1_ := Aside0.mk (blk_below (g := gb389) (o := .cells #[.int .i64 a1_0, .int .i64 a1_1, .int .i64 a1_2, .int .i64 a1_3, .int .i64 a1_4, .int .i64 a1_5] 54 (0, 0)) (by (with_reducible repeat (first | refine blk_drewN ?_ _ | refine blk_drew ?_ | refine blk_alloc ?_ _)); exact BK389.out) hb); have n2_ := Aside0.mk (below_step (by repeat (first | (with_reducible first | exact HB.out | apply below_alloc | apply pw_below_drewN | apply below_drew1 | refine below_set ?_ GE388.out | refine below_set ?_ GE389.out) | exact HB.out)) hb); clear BK388; clear BK389; clear HB; have BK388 := n0_; have BK389 := n1_; have HB := n2_; clear n0_ n1_ n2_; (try clear hb); (try clear hb2); (try clear hk); (try clear hi)))
        go_meet
        case rel => exact ⟨_, (t392), (by first | rfl | (simp; done) | (simp [*]; done)), H', ⟨by first | omega | exact Nat.le_refl _⟩, ⟨by (with_reducible repeat (first | refine blk_drewN ?_ _ | refine blk_drew ?_ | refine blk_alloc ?_ _)); exact BK388.out⟩, ⟨by (with_reducible repeat (first | refine blk_drewN ?_ _ | refine blk_drew ?_ | refine blk_alloc ?_ _)); exact BK389.out⟩, ⟨by repeat (first | (with_reducible first | exact HB.out | apply below_alloc | apply pw_below_drewN | apply below_drew1 | refine below_set ?_ GE388.out | refine below_set ?_ GE389.out) | exact HB.out)⟩⟩
    case rest =>
      clear HC6
      try clear c1
      try clear p2
      try clear c3
      try clear c5
      try clear c8
      try clear c9
      try clear c11
      try clear c12
      try clear c16
      try clear hcz13_0
      try clear hcz13_1
      try clear hcz13_2
      try clear hcz13_3
      try clear hcz13_4
      try clear hcz13_5
      try clear hcz17_0
      try clear hcz17_1
      try clear hcz17_2
      try clear hcz17_3
      try clear hcz17_4
      try clear hcz17_5
      try clear hcz19_0
      try clear hcz19_1
      try clear hcz19_2
      try clear hcz19_3
      try clear hcz19_4
      try clear hcz19_5
      try clear hfz13_0
      try clear hfz13_1
      try clear hfz13_2
      try clear hfz13_3
      try clear hfz13_4
      try clear hfz13_5
      try clear hfz17_0
      try clear hfz17_1
      try clear hfz17_2
      try clear hfz17_3
      try clear hfz17_4
      try clear hfz17_5
      try clear hfz19_0
      try clear hfz19_1
      try clear hfz19_2
      try clear hfz19_3
      try clear hfz19_4
      try clear hfz19_5
      obtain ⟨kq, x16_5, rfl, HA, HJ5, BK388, BK389, HB⟩ := hcut
      cases kq with
      | zero => exact absurd HA.out (by simp [gluepotlaw23_StatsFit.j0])
      | succ kj5 =>
        have H := HA.out
        clear HA
        simp only [gluepotlaw23_StatsFit.j0] at H
        by_cases c21 : x16_5 = true
        · subst c21
          have H1 : (some true) = some r := by rw [if_pos rfl] at H; exact H
          clear H
          have H := H1
          clear H1
          obtain rfl := Option.some.inj H
          go_wp2
          go_ret
          exact ⟨by first | rfl | (simp [errW_none, errW_some] <;> rfl) | (simp [*, errW_none, errW_some] <;> rfl), by repeat (first | (with_reducible first | exact HB.out | apply below_alloc | apply pw_below_drewN | apply below_drew1 | refine below_set ?_ GE388.out | refine below_set ?_ GE389.out) | exact HB.out)⟩
        · replace c21 := Bool.eq_false_iff.mpr c21
          subst c21
          have H1 : ((stats_Total.f kj5 (([(⟨a0_0, a0_1, a0_2, a0_3, a0_4, a0_5⟩ : S54), (⟨a1_0, a1_1, a1_2, a1_3, a1_4, a1_5⟩ : S54)] : List (S54)))).bind fun bt396 => ((stats_Fits.f kj5 a0_0 a0_1 a0_2 a0_3 a0_4 a0_5 a2).bind fun t404 => ((gluepotref23_Fits.f a0_0 a0_1 a0_2 a0_3 a0_4 a0_5 a2).bind fun t405 => (if (t404 == t405) = true then (if (bt396.1 == (wrap64 (a0_0 + a1_0)) && (bt396.2.1 == (wrap64 (a0_1 + a1_1)) && (bt396.2.2.1 == (wrap64 (a0_2 + a1_2)) && (bt396.2.2.2.1 == (wrap64 (a0_3 + a1_3)) && (bt396.2.2.2.2.1 == (mx a0_4 a1_4) && (bt396.2.2.2.2.2 == (wrap64 (a0_5 + a1_5)))))))) = true then ((stats_Total.f kj5 ([] : List (S54))).bind fun bt406 => (if (bt406.1 == 0 && (bt406.2.1 == 0 && (bt406.2.2.1 == 0 && (bt406.2.2.2.1 == 0 && (bt406.2.2.2.2.1 == 0 && (bt406.2.2.2.2.2 == 0)))))) = true then ((stats_Total.f kj5 (([(⟨a0_0, a0_1, a0_2, a0_3, a0_4, a0_5⟩ : S54)] : List (S54)))).bind fun bt415 => (if (bt415.1 == a0_0 && (bt415.2.1 == a0_1 && (bt415.2.2.1 == a0_2 && (bt415.2.2.2.1 == a0_3 && (bt415.2.2.2.2.1 == a0_4 && (bt415.2.2.2.2.2 == a0_5)))))) = true then ((stats_Total.f kj5 (([(⟨a1_0, a1_1, a1_2, a1_3, a1_4, a1_5⟩ : S54), (⟨a0_0, a0_1, a0_2, a0_3, a0_4, a0_5⟩ : S54)] : List (S54)))).bind fun bt424 => (if (bt424.1 == (wrap64 (a0_0 + a1_0)) && (bt424.2.1 == (wrap64 (a0_1 + a1_1)) && (bt424.2.2.1 == (wrap64 (a0_2 + a1_2)) && (bt424.2.2.2.1 == (wrap64 (a0_3 + a1_3)) && (bt424.2.2.2.2.1 == (mx a0_4 a1_4) && (bt424.2.2.2.2.2 == (wrap64 (a0_5 + a1_5)))))))) = true then ((stats_Total.f kj5 (([(⟨a0_0, a0_1, a0_2, a0_3, a0_4, a0_5⟩ : S54), (⟨a1_0, a1_1, a1_2, a1_3, a1_4, a1_5⟩ : S54), (⟨0, 0, 0, 0, mx a0_4 a1_4, 0⟩ : S54)] : List (S54)))).bind fun bt433 => (some (bt433.1 == (wrap64 (a0_0 + a1_0)) && (bt433.2.1 == (wrap64 (a0_1 + a1_1)) && (bt433.2.2.1 == (wrap64 (a0_2 + a1_2)) && (bt433.2.2.2.1 == (wrap64 (a0_3 + a1_3)) && (bt433.2.2.2.2.1 == (mx a0_4 a1_4) && (bt433.2.2.2.2.2 == (wrap64 (a0_5 + a1_5)))))))))) else none)) else none)) else none)) else none) else none)))) = some r := by rw [if_neg (show ¬ (false = true) by decide)] at H; exact H
          clear H
          have H := H1
          clear H1
          obtain ⟨y393, hy393⟩ : ∃ y_ : List (S54), y_ = (([(⟨a0_0, a0_1, a0_2, a0_3, a0_4, a0_5⟩ : S54), (⟨a1_0, a1_1, a1_2, a1_3, a1_4, a1_5⟩ : S54)] : List (S54))) := ⟨_, rfl⟩
          replace H : ((stats_Total.f kj5 y393).bind fun bt396 => ((stats_Fits.f kj5 a0_0 a0_1 a0_2 a0_3 a0_4 a0_5 a2).bind fun t404 => ((gluepotref23_Fits.f a0_0 a0_1 a0_2 a0_3 a0_4 a0_5 a2).bind fun t405 => (if (t404 == t405) = true then (if (bt396.1 == (wrap64 (a0_0 + a1_0)) && (bt396.2.1 == (wrap64 (a0_1 + a1_1)) && (bt396.2.2.1 == (wrap64 (a0_2 + a1_2)) && (bt396.2.2.2.1 == (wrap64 (a0_3 + a1_3)) && (bt396.2.2.2.2.1 == (mx a0_4 a1_4) && (bt396.2.2.2.2.2 == (wrap64 (a0_5 + a1_5)))))))) = true then ((stats_Total.f kj5 ([] : List (S54))).bind fun bt406 => (if (bt406.1 == 0 && (bt406.2.1 == 0 && (bt406.2.2.1 == 0 && (bt406.2.2.2.1 == 0 && (bt406.2.2.2.2.1 == 0 && (bt406.2.2.2.2.2 == 0)))))) = true then ((stats_Total.f kj5 (([(⟨a0_0, a0_1, a0_2, a0_3, a0_4, a0_5⟩ : S54)] : List (S54)))).bind fun bt415 => (if (bt415.1 == a0_0 && (bt415.2.1 == a0_1 && (bt415.2.2.1 == a0_2 && (bt415.2.2.2.1 == a0_3 && (bt415.2.2.2.2.1 == a0_4 && (bt415.2.2.2.2.2 == a0_5)))))) = true then ((stats_Total.f kj5 (([(⟨a1_0, a1_1, a1_2, a1_3, a1_4, a1_5⟩ : S54), (⟨a0_0, a0_1, a0_2, a0_3, a0_4, a0_5⟩ : S54)] : List (S54)))).bind fun bt424 => (if (bt424.1 == (wrap64 (a0_0 + a1_0)) && (bt424.2.1 == (wrap64 (a0_1 + a1_1)) && (bt424.2.2.1 == (wrap64 (a0_2 + a1_2)) && (bt424.2.2.2.1 == (wrap64 (a0_3 + a1_3)) && (bt424.2.2.2.2.1 == (mx a0_4 a1_4) && (bt424.2.2.2.2.2 == (wrap64 (a0_5 + a1_5)))))))) = true then ((stats_Total.f kj5 (([(⟨a0_0, a0_1, a0_2, a0_3, a0_4, a0_5⟩ : S54), (⟨a1_0, a1_1, a1_2, a1_3, a1_4, a1_5⟩ : S54), (⟨0, 0, 0, 0, mx a0_4 a1_4, 0⟩ : S54)] : List (S54)))).bind fun bt433 => (some (bt433.1 == (wrap64 (a0_0 + a1_0)) && (bt433.2.1 == (wrap64 (a0_1 + a1_1)) && (bt433.2.2.1 == (wrap64 (a0_2 + a1_2)) && (bt433.2.2.2.1 == (wrap64 (a0_3 + a1_3)) && (bt433.2.2.2.2.1 == (mx a0_4 a1_4) && (bt433.2.2.2.2.2 == (wrap64 (a0_5 + a1_5)))))))))) else none)) else none)) else none)) else none) else none)))) = some r := by first | (rw [hy393]; with_reducible exact H) | (have H2_ := (Option.bind_some _ _).symm.trans H; rw [hy393]; with_reducible exact H2_) | (have H2_ := (Option.bind_some _ _).symm.trans H; with_reducible exact H2_) | with_reducible exact H | (rw [hy393]; exact H) | exact H
          have Ny393 := Aside0.mk hy393
          clear hy393
          replace H := Option.bind_eq_some_iff.mp H
          obtain ⟨⟨t396, t397, t398, t399, t400, t401⟩, A220, H⟩ := H
          replace H : ((stats_Fits.f kj5 a0_0 a0_1 a0_2 a0_3 a0_4 a0_5 a2).bind fun t404 => ((gluepotref23_Fits.f a0_0 a0_1 a0_2 a0_3 a0_4 a0_5 a2).bind fun t405 => (if (t404 == t405) = true then (if (t396 == (wrap64 (a0_0 + a1_0)) && (t397 == (wrap64 (a0_1 + a1_1)) && (t398 == (wrap64 (a0_2 + a1_2)) && (t399 == (wrap64 (a0_3 + a1_3)) && (t400 == (mx a0_4 a1_4) && (t401 == (wrap64 (a0_5 + a1_5)))))))) = true then ((stats_Total.f kj5 ([] : List (S54))).bind fun bt406 => (if (bt406.1 == 0 && (bt406.2.1 == 0 && (bt406.2.2.1 == 0 && (bt406.2.2.2.1 == 0 && (bt406.2.2.2.2.1 == 0 && (bt406.2.2.2.2.2 == 0)))))) = true then ((stats_Total.f kj5 (([(⟨a0_0, a0_1, a0_2, a0_3, a0_4, a0_5⟩ : S54)] : List (S54)))).bind fun bt415 => (if (bt415.1 == a0_0 && (bt415.2.1 == a0_1 && (bt415.2.2.1 == a0_2 && (bt415.2.2.2.1 == a0_3 && (bt415.2.2.2.2.1 == a0_4 && (bt415.2.2.2.2.2 == a0_5)))))) = true then ((stats_Total.f kj5 (([(⟨a1_0, a1_1, a1_2, a1_3, a1_4, a1_5⟩ : S54), (⟨a0_0, a0_1, a0_2, a0_3, a0_4, a0_5⟩ : S54)] : List (S54)))).bind fun bt424 => (if (bt424.1 == (wrap64 (a0_0 + a1_0)) && (bt424.2.1 == (wrap64 (a0_1 + a1_1)) && (bt424.2.2.1 == (wrap64 (a0_2 + a1_2)) && (bt424.2.2.2.1 == (wrap64 (a0_3 + a1_3)) && (bt424.2.2.2.2.1 == (mx a0_4 a1_4) && (bt424.2.2.2.2.2 == (wrap64 (a0_5 + a1_5)))))))) = true then ((stats_Total.f kj5 (([(⟨a0_0, a0_1, a0_2, a0_3, a0_4, a0_5⟩ : S54), (⟨a1_0, a1_1, a1_2, a1_3, a1_4, a1_5⟩ : S54), (⟨0, 0, 0, 0, mx a0_4 a1_4, 0⟩ : S54)] : List (S54)))).bind fun bt433 => (some (bt433.1 == (wrap64 (a0_0 + a1_0)) && (bt433.2.1 == (wrap64 (a0_1 + a1_1)) && (bt433.2.2.1 == (wrap64 (a0_2 + a1_2)) && (bt433.2.2.2.1 == (wrap64 (a0_3 + a1_3)) && (bt433.2.2.2.2.1 == (mx a0_4 a1_4) && (bt433.2.2.2.2.2 == (wrap64 (a0_5 + a1_5)))))))))) else none)) else none)) else none)) else none) else none))) = some r := H
          have A22 := Aside0.mk A220
          clear A220
          obtain ⟨ji23, hji23⟩ : ∃ j_ : Int, (mx a0_4 a1_4) = j_ := ⟨_, rfl⟩
          replace H : ((stats_Fits.f kj5 a0_0 a0_1 a0_2 a0_3 a0_4 a0_5 a2).bind fun t404 => ((gluepotref23_Fits.f a0_0 a0_1 a0_2 a0_3 a0_4 a0_5 a2).bind fun t405 => (if (t404 == t405) = true then (if (t396 == (wrap64 (a0_0 + a1_0)) && (t397 == (wrap64 (a0_1 + a1_1)) && (t398 == (wrap64 (a0_2 + a1_2)) && (t399 == (wrap64 (a0_3 + a1_3)) && (t400 == (ji23) && (t401 == (wrap64 (a0_5 + a1_5)))))))) = true then ((stats_Total.f kj5 ([] : List (S54))).bind fun bt406 => (if (bt406.1 == 0 && (bt406.2.1 == 0 && (bt406.2.2.1 == 0 && (bt406.2.2.2.1 == 0 && (bt406.2.2.2.2.1 == 0 && (bt406.2.2.2.2.2 == 0)))))) = true then ((stats_Total.f kj5 (([(⟨a0_0, a0_1, a0_2, a0_3, a0_4, a0_5⟩ : S54)] : List (S54)))).bind fun bt415 => (if (bt415.1 == a0_0 && (bt415.2.1 == a0_1 && (bt415.2.2.1 == a0_2 && (bt415.2.2.2.1 == a0_3 && (bt415.2.2.2.2.1 == a0_4 && (bt415.2.2.2.2.2 == a0_5)))))) = true then ((stats_Total.f kj5 (([(⟨a1_0, a1_1, a1_2, a1_3, a1_4, a1_5⟩ : S54), (⟨a0_0, a0_1, a0_2, a0_3, a0_4, a0_5⟩ : S54)] : List (S54)))).bind fun bt424 => (if (bt424.1 == (wrap64 (a0_0 + a1_0)) && (bt424.2.1 == (wrap64 (a0_1 + a1_1)) && (bt424.2.2.1 == (wrap64 (a0_2 + a1_2)) && (bt424.2.2.2.1 == (wrap64 (a0_3 + a1_3)) && (bt424.2.2.2.2.1 == (ji23) && (bt424.2.2.2.2.2 == (wrap64 (a0_5 + a1_5)))))))) = true then ((stats_Total.f kj5 (([(⟨a0_0, a0_1, a0_2, a0_3, a0_4, a0_5⟩ : S54), (⟨a1_0, a1_1, a1_2, a1_3, a1_4, a1_5⟩ : S54), (⟨0, 0, 0, 0, ji23, 0⟩ : S54)] : List (S54)))).bind fun bt433 => (some (bt433.1 == (wrap64 (a0_0 + a1_0)) && (bt433.2.1 == (wrap64 (a0_1 + a1_1)) && (bt433.2.2.1 == (wrap64 (a0_2 + a1_2)) && (bt433.2.2.2.1 == (wrap64 (a0_3 + a1_3)) && (bt433.2.2.2.2.1 == (ji23) && (bt433.2.2.2.2.2 == (wrap64 (a0_5 + a1_5)))))))))) else none)) else none)) else none)) else none) else none))) = some r := by first | (rw [hji23] at H; exact H) | (simp only [hji23] at H ⊢; exact H)
          (try rw [hji23] at A22)
          have hji23_ : (if a0_4 < a1_4 then a1_4 else a0_4) = ji23 := hji23
          replace H := Option.bind_eq_some_iff.mp H
          obtain ⟨t404, A240, H⟩ := H
          replace H : ((gluepotref23_Fits.f a0_0 a0_1 a0_2 a0_3 a0_4 a0_5 a2).bind fun t405 => (if (t404 == t405) = true then (if (t396 == (wrap64 (a0_0 + a1_0)) && (t397 == (wrap64 (a0_1 + a1_1)) && (t398 == (wrap64 (a0_2 + a1_2)) && (t399 == (wrap64 (a0_3 + a1_3)) && (t400 == (ji23) && (t401 == (wrap64 (a0_5 + a1_5)))))))) = true then ((stats_Total.f kj5 ([] : List (S54))).bind fun bt406 => (if (bt406.1 == 0 && (bt406.2.1 == 0 && (bt406.2.2.1 == 0 && (bt406.2.2.2.1 == 0 && (bt406.2.2.2.2.1 == 0 && (bt406.2.2.2.2.2 == 0)))))) = true then ((stats_Total.f kj5 (([(⟨a0_0, a0_1, a0_2, a0_3, a0_4, a0_5⟩ : S54)] : List (S54)))).bind fun bt415 => (if (bt415.1 == a0_0 && (bt415.2.1 == a0_1 && (bt415.2.2.1 == a0_2 && (bt415.2.2.2.1 == a0_3 && (bt415.2.2.2.2.1 == a0_4 && (bt415.2.2.2.2.2 == a0_5)))))) = true then ((stats_Total.f kj5 (([(⟨a1_0, a1_1, a1_2, a1_3, a1_4, a1_5⟩ : S54), (⟨a0_0, a0_1, a0_2, a0_3, a0_4, a0_5⟩ : S54)] : List (S54)))).bind fun bt424 => (if (bt424.1 == (wrap64 (a0_0 + a1_0)) && (bt424.2.1 == (wrap64 (a0_1 + a1_1)) && (bt424.2.2.1 == (wrap64 (a0_2 + a1_2)) && (bt424.2.2.2.1 == (wrap64 (a0_3 + a1_3)) && (bt424.2.2.2.2.1 == (ji23) && (bt424.2.2.2.2.2 == (wrap64 (a0_5 + a1_5)))))))) = true then ((stats_Total.f kj5 (([(⟨a0_0, a0_1, a0_2, a0_3, a0_4, a0_5⟩ : S54), (⟨a1_0, a1_1, a1_2, a1_3, a1_4, a1_5⟩ : S54), (⟨0, 0, 0, 0, ji23, 0⟩ : S54)] : List (S54)))).bind fun bt433 => (some (bt433.1 == (wrap64 (a0_0 + a1_0)) && (bt433.2.1 == (wrap64 (a0_1 + a1_1)) && (bt433.2.2.1 == (wrap64 (a0_2 + a1_2)) && (bt433.2.2.2.1 == (wrap64 (a0_3 + a1_3)) && (bt433.2.2.2.2.1 == (ji23) && (bt433.2.2.2.2.2 == (wrap64 (a0_5 + a1_5)))))))))) else none)) else none)) else none)) else none) else none)) = some r := H
          have A24 := Aside0.mk A240
          clear A240
          replace H := Option.bind_eq_some_iff.mp H
          obtain ⟨t405, A250, H⟩ := H
          replace H : (if (t404 == t405) = true then (if (t396 == (wrap64 (a0_0 + a1_0)) && (t397 == (wrap64 (a0_1 + a1_1)) && (t398 == (wrap64 (a0_2 + a1_2)) && (t399 == (wrap64 (a0_3 + a1_3)) && (t400 == (ji23) && (t401 == (wrap64 (a0_5 + a1_5)))))))) = true then ((stats_Total.f kj5 ([] : List (S54))).bind fun bt406 => (if (bt406.1 == 0 && (bt406.2.1 == 0 && (bt406.2.2.1 == 0 && (bt406.2.2.2.1 == 0 && (bt406.2.2.2.2.1 == 0 && (bt406.2.2.2.2.2 == 0)))))) = true then ((stats_Total.f kj5 (([(⟨a0_0, a0_1, a0_2, a0_3, a0_4, a0_5⟩ : S54)] : List (S54)))).bind fun bt415 => (if (bt415.1 == a0_0 && (bt415.2.1 == a0_1 && (bt415.2.2.1 == a0_2 && (bt415.2.2.2.1 == a0_3 && (bt415.2.2.2.2.1 == a0_4 && (bt415.2.2.2.2.2 == a0_5)))))) = true then ((stats_Total.f kj5 (([(⟨a1_0, a1_1, a1_2, a1_3, a1_4, a1_5⟩ : S54), (⟨a0_0, a0_1, a0_2, a0_3, a0_4, a0_5⟩ : S54)] : List (S54)))).bind fun bt424 => (if (bt424.1 == (wrap64 (a0_0 + a1_0)) && (bt424.2.1 == (wrap64 (a0_1 + a1_1)) && (bt424.2.2.1 == (wrap64 (a0_2 + a1_2)) && (bt424.2.2.2.1 == (wrap64 (a0_3 + a1_3)) && (bt424.2.2.2.2.1 == (ji23) && (bt424.2.2.2.2.2 == (wrap64 (a0_5 + a1_5)))))))) = true then ((stats_Total.f kj5 (([(⟨a0_0, a0_1, a0_2, a0_3, a0_4, a0_5⟩ : S54), (⟨a1_0, a1_1, a1_2, a1_3, a1_4, a1_5⟩ : S54), (⟨0, 0, 0, 0, ji23, 0⟩ : S54)] : List (S54)))).bind fun bt433 => (some (bt433.1 == (wrap64 (a0_0 + a1_0)) && (bt433.2.1 == (wrap64 (a0_1 + a1_1)) && (bt433.2.2.1 == (wrap64 (a0_2 + a1_2)) && (bt433.2.2.2.1 == (wrap64 (a0_3 + a1_3)) && (bt433.2.2.2.2.1 == (ji23) && (bt433.2.2.2.2.2 == (wrap64 (a0_5 + a1_5)))))))))) else none)) else none)) else none)) else none) else none) = some r := H
          have A25 := Aside0.mk A250
          clear A250
          by_cases c26 : (t404 == t405) = true
          · rw [if_pos c26] at H
            have c26b0 : (t404 == t405) = true := c26
            (try (have c26b1 : decide (t404 = t405) = true := by simpa using c26))
            (try (have c26b2 : (t404 == t405) = true := by simpa using c26))
            clear c26
            by_cases c27 : (t396 == (wrap64 (a0_0 + a1_0)) && (t397 == (wrap64 (a0_1 + a1_1)) && (t398 == (wrap64 (a0_2 + a1_2)) && (t399 == (wrap64 (a0_3 + a1_3)) && (t400 == (ji23) && (t401 == (wrap64 (a0_5 + a1_5)))))))) = true
            · rw [if_pos c27] at H
              have c27b0 : (t396 == (wrap64 (a0_0 + a1_0)) && (t397 == (wrap64 (a0_1 + a1_1)) && (t398 == (wrap64 (a0_2 + a1_2)) && (t399 == (wrap64 (a0_3 + a1_3)) && (t400 == (ji23) && (t401 == (wrap64 (a0_5 + a1_5)))))))) = true := c27
              (try (have c27b1 : decide (t396 = (wrap64 (a0_0 + a1_0)) && (t397 == (wrap64 (a0_1 + a1_1)) && (t398 == (wrap64 (a0_2 + a1_2)) && (t399 == (wrap64 (a0_3 + a1_3)) && (t400 == (ji23) && (t401 == (wrap64 (a0_5 + a1_5)))))))) = true := by simpa using c27))
              (try (have c27b2 : (t396 == (wrap64 (a0_0 + a1_0)) && (t397 == (wrap64 (a0_1 + a1_1)) && (t398 == (wrap64 (a0_2 + a1_2)) && (t399 == (wrap64 (a0_3 + a1_3)) && (t400 == (ji23) && (t401 == (wrap64 (a0_5 + a1_5)))))))) = true := by simpa using c27))
              clear c27
              replace H := Option.bind_eq_some_iff.mp H
              obtain ⟨⟨t406, t407, t408, t409, t410, t411⟩, A280, H⟩ := H
              replace H : (if (t406 == 0 && (t407 == 0 && (t408 == 0 && (t409 == 0 && (t410 == 0 && (t411 == 0)))))) = true then ((stats_Total.f kj5 (([(⟨a0_0, a0_1, a0_2, a0_3, a0_4, a0_5⟩ : S54)] : List (S54)))).bind fun bt415 => (if (bt415.1 == a0_0 && (bt415.2.1 == a0_1 && (bt415.2.2.1 == a0_2 && (bt415.2.2.2.1 == a0_3 && (bt415.2.2.2.2.1 == a0_4 && (bt415.2.2.2.2.2 == a0_5)))))) = true then ((stats_Total.f kj5 (([(⟨a1_0, a1_1, a1_2, a1_3, a1_4, a1_5⟩ : S54), (⟨a0_0, a0_1, a0_2, a0_3, a0_4, a0_5⟩ : S54)] : List (S54)))).bind fun bt424 => (if (bt424.1 == (wrap64 (a0_0 + a1_0)) && (bt424.2.1 == (wrap64 (a0_1 + a1_1)) && (bt424.2.2.1 == (wrap64 (a0_2 + a1_2)) && (bt424.2.2.2.1 == (wrap64 (a0_3 + a1_3)) && (bt424.2.2.2.2.1 == (ji23) && (bt424.2.2.2.2.2 == (wrap64 (a0_5 + a1_5)))))))) = true then ((stats_Total.f kj5 (([(⟨a0_0, a0_1, a0_2, a0_3, a0_4, a0_5⟩ : S54), (⟨a1_0, a1_1, a1_2, a1_3, a1_4, a1_5⟩ : S54), (⟨0, 0, 0, 0, ji23, 0⟩ : S54)] : List (S54)))).bind fun bt433 => (some (bt433.1 == (wrap64 (a0_0 + a1_0)) && (bt433.2.1 == (wrap64 (a0_1 + a1_1)) && (bt433.2.2.1 == (wrap64 (a0_2 + a1_2)) && (bt433.2.2.2.1 == (wrap64 (a0_3 + a1_3)) && (bt433.2.2.2.2.1 == (ji23) && (bt433.2.2.2.2.2 == (wrap64 (a0_5 + a1_5)))))))))) else none)) else none)) else none) = some r := H
              have A28 := Aside0.mk A280
              clear A280
              by_cases c29 : (t406 == 0 && (t407 == 0 && (t408 == 0 && (t409 == 0 && (t410 == 0 && (t411 == 0)))))) = true
              · rw [if_pos c29] at H
                have c29b0 : (t406 == 0 && (t407 == 0 && (t408 == 0 && (t409 == 0 && (t410 == 0 && (t411 == 0)))))) = true := c29
                (try (have c29b1 : decide (t406 = 0 && (t407 == 0 && (t408 == 0 && (t409 == 0 && (t410 == 0 && (t411 == 0)))))) = true := by simpa using c29))
                (try (have c29b2 : (t406 == 0 && (t407 == 0 && (t408 == 0 && (t409 == 0 && (t410 == 0 && (t411 == 0)))))) = true := by simpa using c29))
                clear c29
                obtain ⟨y412, hy412⟩ : ∃ y_ : List (S54), y_ = (([(⟨a0_0, a0_1, a0_2, a0_3, a0_4, a0_5⟩ : S54)] : List (S54))) := ⟨_, rfl⟩
                replace H : ((stats_Total.f kj5 y412).bind fun bt415 => (if (bt415.1 == a0_0 && (bt415.2.1 == a0_1 && (bt415.2.2.1 == a0_2 && (bt415.2.2.2.1 == a0_3 && (bt415.2.2.2.2.1 == a0_4 && (bt415.2.2.2.2.2 == a0_5)))))) = true then ((stats_Total.f kj5 (([(⟨a1_0, a1_1, a1_2, a1_3, a1_4, a1_5⟩ : S54), (⟨a0_0, a0_1, a0_2, a0_3, a0_4, a0_5⟩ : S54)] : List (S54)))).bind fun bt424 => (if (bt424.1 == (wrap64 (a0_0 + a1_0)) && (bt424.2.1 == (wrap64 (a0_1 + a1_1)) && (bt424.2.2.1 == (wrap64 (a0_2 + a1_2)) && (bt424.2.2.2.1 == (wrap64 (a0_3 + a1_3)) && (bt424.2.2.2.2.1 == (ji23) && (bt424.2.2.2.2.2 == (wrap64 (a0_5 + a1_5)))))))) = true then ((stats_Total.f kj5 (([(⟨a0_0, a0_1, a0_2, a0_3, a0_4, a0_5⟩ : S54), (⟨a1_0, a1_1, a1_2, a1_3, a1_4, a1_5⟩ : S54), (⟨0, 0, 0, 0, ji23, 0⟩ : S54)] : List (S54)))).bind fun bt433 => (some (bt433.1 == (wrap64 (a0_0 + a1_0)) && (bt433.2.1 == (wrap64 (a0_1 + a1_1)) && (bt433.2.2.1 == (wrap64 (a0_2 + a1_2)) && (bt433.2.2.2.1 == (wrap64 (a0_3 + a1_3)) && (bt433.2.2.2.2.1 == (ji23) && (bt433.2.2.2.2.2 == (wrap64 (a0_5 + a1_5)))))))))) else none)) else none)) = some r := by first | (rw [hy412]; with_reducible exact H) | (have H2_ := (Option.bind_some _ _).symm.trans H; rw [hy412]; with_reducible exact H2_) | (have H2_ := (Option.bind_some _ _).symm.trans H; with_reducible exact H2_) | with_reducible exact H | (rw [hy412]; exact H) | exact H
                have Ny412 := Aside0.mk hy412
                clear hy412
                replace H := Option.bind_eq_some_iff.mp H
                obtain ⟨⟨t415, t416, t417, t418, t419, t420⟩, A300, H⟩ := H
                replace H : (if (t415 == a0_0 && (t416 == a0_1 && (t417 == a0_2 && (t418 == a0_3 && (t419 == a0_4 && (t420 == a0_5)))))) = true then ((stats_Total.f kj5 (([(⟨a1_0, a1_1, a1_2, a1_3, a1_4, a1_5⟩ : S54), (⟨a0_0, a0_1, a0_2, a0_3, a0_4, a0_5⟩ : S54)] : List (S54)))).bind fun bt424 => (if (bt424.1 == (wrap64 (a0_0 + a1_0)) && (bt424.2.1 == (wrap64 (a0_1 + a1_1)) && (bt424.2.2.1 == (wrap64 (a0_2 + a1_2)) && (bt424.2.2.2.1 == (wrap64 (a0_3 + a1_3)) && (bt424.2.2.2.2.1 == (ji23) && (bt424.2.2.2.2.2 == (wrap64 (a0_5 + a1_5)))))))) = true then ((stats_Total.f kj5 (([(⟨a0_0, a0_1, a0_2, a0_3, a0_4, a0_5⟩ : S54), (⟨a1_0, a1_1, a1_2, a1_3, a1_4, a1_5⟩ : S54), (⟨0, 0, 0, 0, ji23, 0⟩ : S54)] : List (S54)))).bind fun bt433 => (some (bt433.1 == (wrap64 (a0_0 + a1_0)) && (bt433.2.1 == (wrap64 (a0_1 + a1_1)) && (bt433.2.2.1 == (wrap64 (a0_2 + a1_2)) && (bt433.2.2.2.1 == (wrap64 (a0_3 + a1_3)) && (bt433.2.2.2.2.1 == (ji23) && (bt433.2.2.2.2.2 == (wrap64 (a0_5 + a1_5)))))))))) else none)) else none) = some r := H
                have A30 := Aside0.mk A300
                clear A300
                by_cases c31 : (t415 == a0_0 && (t416 == a0_1 && (t417 == a0_2 && (t418 == a0_3 && (t419 == a0_4 && (t420 == a0_5)))))) = true
                · rw [if_pos c31] at H
                  have c31b0 : (t415 == a0_0 && (t416 == a0_1 && (t417 == a0_2 && (t418 == a0_3 && (t419 == a0_4 && (t420 == a0_5)))))) = true := c31
                  (try (have c31b1 : decide (t415 = a0_0 && (t416 == a0_1 && (t417 == a0_2 && (t418 == a0_3 && (t419 == a0_4 && (t420 == a0_5)))))) = true := by simpa using c31))
                  (try (have c31b2 : (t415 == a0_0 && (t416 == a0_1 && (t417 == a0_2 && (t418 == a0_3 && (t419 == a0_4 && (t420 == a0_5)))))) = true := by simpa using c31))
                  clear c31
                  obtain ⟨y421, hy421⟩ : ∃ y_ : List (S54), y_ = (([(⟨a1_0, a1_1, a1_2, a1_3, a1_4, a1_5⟩ : S54), (⟨a0_0, a0_1, a0_2, a0_3, a0_4, a0_5⟩ : S54)] : List (S54))) := ⟨_, rfl⟩
                  replace H : ((stats_Total.f kj5 y421).bind fun bt424 => (if (bt424.1 == (wrap64 (a0_0 + a1_0)) && (bt424.2.1 == (wrap64 (a0_1 + a1_1)) && (bt424.2.2.1 == (wrap64 (a0_2 + a1_2)) && (bt424.2.2.2.1 == (wrap64 (a0_3 + a1_3)) && (bt424.2.2.2.2.1 == (ji23) && (bt424.2.2.2.2.2 == (wrap64 (a0_5 + a1_5)))))))) = true then ((stats_Total.f kj5 (([(⟨a0_0, a0_1, a0_2, a0_3, a0_4, a0_5⟩ : S54), (⟨a1_0, a1_1, a1_2, a1_3, a1_4, a1_5⟩ : S54), (⟨0, 0, 0, 0, ji23, 0⟩ : S54)] : List (S54)))).bind fun bt433 => (some (bt433.1 == (wrap64 (a0_0 + a1_0)) && (bt433.2.1 == (wrap64 (a0_1 + a1_1)) && (bt433.2.2.1 == (wrap64 (a0_2 + a1_2)) && (bt433.2.2.2.1 == (wrap64 (a0_3 + a1_3)) && (bt433.2.2.2.2.1 == (ji23) && (bt433.2.2.2.2.2 == (wrap64 (a0_5 + a1_5)))))))))) else none)) = some r := by first | (rw [hy421]; with_reducible exact H) | (have H2_ := (Option.bind_some _ _).symm.trans H; rw [hy421]; with_reducible exact H2_) | (have H2_ := (Option.bind_some _ _).symm.trans H; with_reducible exact H2_) | with_reducible exact H | (rw [hy421]; exact H) | exact H
                  have Ny421 := Aside0.mk hy421
                  clear hy421
                  replace H := Option.bind_eq_some_iff.mp H
                  obtain ⟨⟨t424, t425, t426, t427, t428, t429⟩, A320, H⟩ := H
                  replace H : (if (t424 == (wrap64 (a0_0 + a1_0)) && (t425 == (wrap64 (a0_1 + a1_1)) && (t426 == (wrap64 (a0_2 + a1_2)) && (t427 == (wrap64 (a0_3 + a1_3)) && (t428 == (ji23) && (t429 == (wrap64 (a0_5 + a1_5)))))))) = true then ((stats_Total.f kj5 (([(⟨a0_0, a0_1, a0_2, a0_3, a0_4, a0_5⟩ : S54), (⟨a1_0, a1_1, a1_2, a1_3, a1_4, a1_5⟩ : S54), (⟨0, 0, 0, 0, ji23, 0⟩ : S54)] : List (S54)))).bind fun bt433 => (some (bt433.1 == (wrap64 (a0_0 + a1_0)) && (bt433.2.1 == (wrap64 (a0_1 + a1_1)) && (bt433.2.2.1 == (wrap64 (a0_2 + a1_2)) && (bt433.2.2.2.1 == (wrap64 (a0_3 + a1_3)) && (bt433.2.2.2.2.1 == (ji23) && (bt433.2.2.2.2.2 == (wrap64 (a0_5 + a1_5)))))))))) else none) = some r := H
                  have A32 := Aside0.mk A320
                  clear A320
                  by_cases c33 : (t424 == (wrap64 (a0_0 + a1_0)) && (t425 == (wrap64 (a0_1 + a1_1)) && (t426 == (wrap64 (a0_2 + a1_2)) && (t427 == (wrap64 (a0_3 + a1_3)) && (t428 == (ji23) && (t429 == (wrap64 (a0_5 + a1_5)))))))) = true
                  · rw [if_pos c33] at H
                    have c33b0 : (t424 == (wrap64 (a0_0 + a1_0)) && (t425 == (wrap64 (a0_1 + a1_1)) && (t426 == (wrap64 (a0_2 + a1_2)) && (t427 == (wrap64 (a0_3 + a1_3)) && (t428 == (ji23) && (t429 == (wrap64 (a0_5 + a1_5)))))))) = true := c33
                    (try (have c33b1 : decide (t424 = (wrap64 (a0_0 + a1_0)) && (t425 == (wrap64 (a0_1 + a1_1)) && (t426 == (wrap64 (a0_2 + a1_2)) && (t427 == (wrap64 (a0_3 + a1_3)) && (t428 == (ji23) && (t429 == (wrap64 (a0_5 + a1_5)))))))) = true := by simpa using c33))
                    (try (have c33b2 : (t424 == (wrap64 (a0_0 + a1_0)) && (t425 == (wrap64 (a0_1 + a1_1)) && (t426 == (wrap64 (a0_2 + a1_2)) && (t427 == (wrap64 (a0_3 + a1_3)) && (t428 == (ji23) && (t429 == (wrap64 (a0_5 + a1_5)))))))) = true := by simpa using c33))
                    clear c33
                    obtain ⟨y430, hy430⟩ : ∃ y_ : List (S54), y_ = (([(⟨a0_0, a0_1, a0_2, a0_3, a0_4, a0_5⟩ : S54), (⟨a1_0, a1_1, a1_2, a1_3, a1_4, a1_5⟩ : S54), (⟨0, 0, 0, 0, ji23, 0⟩ : S54)] : List (S54))) := ⟨_, rfl⟩
                    replace H : ((stats_Total.f kj5 y430).bind fun bt433 => (some (bt433.1 == (wrap64 (a0_0 + a1_0)) && (bt433.2.1 == (wrap64 (a0_1 + a1_1)) && (bt433.2.2.1 == (wrap64 (a0_2 + a1_2)) && (bt433.2.2.2.1 == (wrap64 (a0_3 + a1_3)) && (bt433.2.2.2.2.1 == (ji23) && (bt433.2.2.2.2.2 == (wrap64 (a0_5 + a1_5)))))))))) = some r := by first | (rw [hy430]; with_reducible exact H) | (have H2_ := (Option.bind_some _ _).symm.trans H; rw [hy430]; with_reducible exact H2_) | (have H2_ := (Option.bind_some _ _).symm.trans H; with_reducible exact H2_) | with_reducible exact H | (rw [hy430]; exact H) | exact H
                    have Ny430 := Aside0.mk hy430
                    clear hy430
                    replace H := Option.bind_eq_some_iff.mp H
                    obtain ⟨⟨t433, t434, t435, t436, t437, t438⟩, A350, H⟩ := H
                    replace H : (some (t433 == (wrap64 (a0_0 + a1_0)) && (t434 == (wrap64 (a0_1 + a1_1)) && (t435 == (wrap64 (a0_2 + a1_2)) && (t436 == (wrap64 (a0_3 + a1_3)) && (t437 == (ji23) && (t438 == (wrap64 (a0_5 + a1_5))))))))) = some r := H
                    have A35 := Aside0.mk A350
                    clear A350
                    obtain rfl := Option.some.inj H
                    have hnb36 := NB388_389.out
                    have hnc36 := NB389_388.out
                    have hcz37_0 : wc.cell? ⟨gb388, 0, none⟩ = some (.int .i64 a0_0) := (blk_cell BK388.out 0).trans rfl
                    have hcz37_1 : wc.cell? ⟨gb388, 1, none⟩ = some (.int .i64 a0_1) := (blk_cell BK388.out 1).trans rfl
                    have hcz37_2 : wc.cell? ⟨gb388, 2, none⟩ = some (.int .i64 a0_2) := (blk_cell BK388.out 2).trans rfl
                    have hcz37_3 : wc.cell? ⟨gb388, 3, none⟩ = some (.int .i64 a0_3) := (blk_cell BK388.out 3).trans rfl
                    have hcz37_4 : wc.cell? ⟨gb388, 4, none⟩ = some (.int .i64 a0_4) := (blk_cell BK388.out 4).trans rfl
                    have hcz37_5 : wc.cell? ⟨gb388, 5, none⟩ = some (.int .i64 a0_5) := (blk_cell BK388.out 5).trans rfl
                    have hfz37_0 := blk_frozen BK388.out 0
                    have hfz37_1 := blk_frozen BK388.out 1
                    have hfz37_2 := blk_frozen BK388.out 2
                    have hfz37_3 := blk_frozen BK388.out 3
                    have hfz37_4 := blk_frozen BK388.out 4
                    have hfz37_5 := blk_frozen BK388.out 5
                    have hcz38_0 : wc.cell? ⟨gb389, 0, none⟩ = some (.int .i64 a1_0) := (blk_cell BK389.out 0).trans rfl
                    have hcz38_1 : wc.cell? ⟨gb389, 1, none⟩ = some (.int .i64 a1_1) := (blk_cell BK389.out 1).trans rfl
                    have hcz38_2 : wc.cell? ⟨gb389, 2, none⟩ = some (.int .i64 a1_2) := (blk_cell BK389.out 2).trans rfl
                    have hcz38_3 : wc.cell? ⟨gb389, 3, none⟩ = some (.int .i64 a1_3) := (blk_cell BK389.out 3).trans rfl
                    have hcz38_4 : wc.cell? ⟨gb389, 4, none⟩ = some (.int .i64 a1_4) := (blk_cell BK389.out 4).trans rfl
                    have hcz38_5 : wc.cell? ⟨gb389, 5, none⟩ = some (.int .i64 a1_5) := (blk_cell BK389.out 5).trans rfl
                    have hfz38_0 := blk_frozen BK389.out 0
                    have hfz38_1 := blk_frozen BK389.out 1
                    have hfz38_2 := blk_frozen BK389.out 2
                    have hfz38_3 := blk_frozen BK389.out 3
                    have hfz38_4 := blk_frozen BK389.out 4
                    have hfz38_5 := blk_frozen BK389.out 5
                    try go_wp2_with (first | ((with_reducible refine gate_dst (N := 19) rfl ?_); (try (refine gate_guard (by rfl) ?_; dsimp only)); refine Kd.R_lit k54 _ 54 ?hg (N := 19) ?hd (xs := ([(⟨a0_0, a0_1, a0_2, a0_3, a0_4, a0_5⟩ : S54), (⟨a1_0, a1_1, a1_2, a1_3, a1_4, a1_5⟩ : S54)] : List (S54))) (inner := [.int .i64 a0_0, .int .i64 a0_1, .int .i64 a0_2, .int .i64 a0_3, .int .i64 a0_4, .int .i64 a0_5, .int .i64 a1_0, .int .i64 a1_1, .int .i64 a1_2, .int .i64 a1_3, .int .i64 a1_4, .int .i64 a1_5]) (ok := fun _ => True) (okp := fun _ => True) ?hr ?hp (fun _ hk => hk) trivial (Below.refl _ _) (Nat.le_refl _) (by simp) ?_; (case hd => rfl); (case hg => rfl); (case hr => first | (go_simp; done) | (go_simp; rfl)); (case hp => exact (Reps.c6 (show Kd.M k54 _ _ _ (⟨a0_0, a0_1, a0_2, a0_3, a0_4, a0_5⟩ : S54) [.int .i64 a0_0, .int .i64 a0_1, .int .i64 a0_2, .int .i64 a0_3, .int .i64 a0_4, .int .i64 a0_5] from (k54_mkM _ _ _ (⟨a0_0, a0_1, a0_2, a0_3, a0_4, a0_5⟩ : S54) )) (Reps.c6 (show Kd.M k54 _ _ _ (⟨a1_0, a1_1, a1_2, a1_3, a1_4, a1_5⟩ : S54) [.int .i64 a1_0, .int .i64 a1_1, .int .i64 a1_2, .int .i64 a1_3, .int .i64 a1_4, .int .i64 a1_5] from (k54_mkM _ _ _ (⟨a1_0, a1_1, a1_2, a1_3, a1_4, a1_5⟩ : S54) )) (Reps.none _ _)))); intro v394 w39 ho40 hb hg_ hnew_; clear hg_ hnew_; (first | rw [← Ny393.out] at ho40 | (simp only [Int.reduceToNat] at ho40; rw [← Ny393.out] at ho40)); have n0_ := Aside0.mk (Kd.R_lower (Kd.R_newB (Kd.R_newB ho40 (g := gb388) (o := .cells #[.int .i64 a0_0, .int .i64 a0_1, .int .i64 a0_2, .int .i64 a0_3, .int .i64 a0_4, .int .i64 a0_5] 54 (0, 0)) (by (with_reducible repeat (first | refine blk_drewN ?_ _ | refine blk_drew ?_ | refine blk_alloc ?_ _)); exact BK388.out)) (g := gb389) (o := .cells #[.int .i64 a1_0, .int .i64 a1_1, .int .i64 a1_2, .int .i64 a1_3, .int .i64 a1_4, .int .i64 a1_5] 54 (0, 0)) (by (with_reducible repeat (first | refine blk_drewN ?_ _ | refine blk_drew ?_ | refine blk_alloc ?_ _)); exact BK389.out)) (below_size (by repeat (first | (with_reducible first | exact HB.out | apply below_alloc | apply pw_below_drewN | apply below_drew1 | refine below_set ?_ GE388.out | refine below_set ?_ GE389.out) | exact HB.out)))); have n1_ := Aside0.mk (blk_below (g := gb388) (o := .cells #[.int .i64 a0_0, .int .i64 a0_1, .int .i64 a0_2, .int .i64 a0_3, .int .i64 a0_4, .int .i64 a0_5] 54 (0, 0)) (by (with_reducible repeat (first | refine blk_drewN ?_ _ | refine blk_drew ?_ | refine blk_alloc ?_ _)); exact BK388.out) hb); have n2_ := Aside0.mk (blk_below (g := gb389) (o := .cells #[.int .i64 a1_0, .int .i64 a1_1, .int .i64 a1_2, .int .i64 a1_3, .int .i64 a1_4, .int .i64 a1_5] 54 (0, 0)) (by (with_reducible repeat (first | refine blk_drewN ?_ _ | refine blk_drew ?_ | refine blk_alloc ?_ _)); exact BK389.out) hb); have n3_ := Aside0.mk (below_step (by repeat (first | (with_reducible first | exact HB.out | apply below_alloc | apply pw_below_drewN | apply below_drew1 | refine below_set ?_ GE388.out | refine below_set ?_ GE389.out) | exact HB.out)) hb); clear BK388; clear BK389; clear HB; have HO395 := n0_; have BK388 := n1_; have BK389 := n2_; have HB := n3_; clear n0_ n1_ n2_ n3_; clear hb ho40; obtain ⟨Ao41, co41, eo41⟩ := Kd.R_slice HO395.out; subst eo41) | ((with_reducible refine gate_callee (f := 31) rfl ?_); refine goesL_ (some 20) rfl rfl Try.func31 (by kernel_rfl) rfl #[.slice Ao41 y393.length co41] rfl (by (try simp only [List.map_toArray, List.map_cons, List.map_nil]); first | done | rfl | (simp only [List.length_drop, List.length_take]; rfl)) ?_; (with_reducible refine (stats_Total.calls kj5 _ _ y393 t396 t397 t398 t399 t400 t401 _ ?side1 ?side2 A22.out).mono ?_); (case side1 => repeat (first | exact (Kd.R_reads' HO395.out).2.2 | (with_reducible refine Kd.C_alloc ?_ _) | (with_reducible refine Kd.C_drewN ?_ _) | (with_reducible refine Kd.C_drew ?_))); (case side2 => exact (Kd.R_reads' HO395.out).2.1); rintro e w42 ⟨rfl, hb⟩; refine ⟨_, rfl, ?_⟩; have n0_ := Aside0.mk (Kd.R_below (by (with_reducible repeat (first | apply Kd.R_alloc | apply Kd.R_drewN | apply Kd.R_drew)); exact HO395.out) hb); have n1_ := Aside0.mk (blk_below (g := gb388) (o := .cells #[.int .i64 a0_0, .int .i64 a0_1, .int .i64 a0_2, .int .i64 a0_3, .int .i64 a0_4, .int .i64 a0_5] 54 (0, 0)) (by (with_reducible repeat (first | refine blk_drewN ?_ _ | refine blk_drew ?_ | refine blk_alloc ?_ _)); exact BK388.out) hb); have n2_ := Aside0.mk (blk_below (g := gb389) (o := .cells #[.int .i64 a1_0, .int .i64 a1_1, .int .i64 a1_2, .int .i64 a1_3, .int .i64 a1_4, .int .i64 a1_5] 54 (0, 0)) (by (with_reducible repeat (first | refine blk_drewN ?_ _ | refine blk_drew ?_ | refine blk_alloc ?_ _)); exact BK389.out) hb); have n3_ := Aside0.mk (below_step (by repeat (first | (with_reducible first | exact HB.out | apply below_alloc | apply pw_below_drewN | apply below_drew1 | refine below_set ?_ GE388.out | refine below_set ?_ GE389.out) | exact HB.out)) hb); clear HO395; clear BK388; clear BK389; clear HB; have HO395 := n0_; have BK388 := n1_; have BK389 := n2_; have HB := n3_; clear n0_ n1_ n2_ n3_; (try clear hb); (try clear hb2); (try clear hk); (try clear hi)) | ((with_reducible refine gate_dst (N := 7) rfl ?_); (try (refine gate_guard (by rfl) ?_; dsimp only)); refine box_event ?hg (N := 7) ?hd (cs := #[.int .i64 0, .int .i64 0, .int .i64 0, .int .i64 0, .int .i64 0, .int .i64 0]) (t := 54) ?hr ?_; (case hd => rfl); (case hg => rfl); (case hr => first | (go_simp; done) | (go_simp; rfl)); intro gb402 hg w43 hbox hb; have n0_ := Aside0.mk (Kd.R_below (Kd.R_elderB (by (with_reducible repeat (first | apply Kd.R_alloc | apply Kd.R_drewN | apply Kd.R_drew)); exact HO395.out) gb402 (Nat.le_of_eq hg.symm)) hb); have n1_ := Aside0.mk (blk_below (g := gb388) (o := .cells #[.int .i64 a0_0, .int .i64 a0_1, .int .i64 a0_2, .int .i64 a0_3, .int .i64 a0_4, .int .i64 a0_5] 54 (0, 0)) (by (with_reducible repeat (first | refine blk_drewN ?_ _ | refine blk_drew ?_ | refine blk_alloc ?_ _)); exact BK388.out) hb); have n2_ := Aside0.mk (blk_below (g := gb389) (o := .cells #[.int .i64 a1_0, .int .i64 a1_1, .int .i64 a1_2, .int .i64 a1_3, .int .i64 a1_4, .int .i64 a1_5] 54 (0, 0)) (by (with_reducible repeat (first | refine blk_drewN ?_ _ | refine blk_drew ?_ | refine blk_alloc ?_ _)); exact BK389.out) hb); have n3_ := Aside0.mk (below_step (by repeat (first | (with_reducible first | exact HB.out | apply below_alloc | apply pw_below_drewN | apply below_drew1 | refine below_set ?_ GE388.out | refine below_set ?_ GE389.out) | exact HB.out)) hb); have n4_ := Aside0.mk (hbox); have n5_ := Aside0.mk ((by rw [hg]; exact (below_size (by repeat (first | (with_reducible first | exact HB.out | apply below_alloc | apply pw_below_drewN | apply below_drew1 | refine below_set ?_ GE388.out | refine below_set ?_ GE389.out) | exact HB.out))) : w.heap.size ≤ gb402)); have n6_ := Aside0.mk ((by rw [hg]; exact (below_size (by repeat (first | (with_reducible first | exact HB.out | apply below_alloc | apply pw_below_drewN | apply below_drew1 | refine below_set ?_ GE388.out | refine below_set ?_ GE389.out) | exact HB.out))) : w.heap.size ≤ gb402)); have n7_ := Aside0.mk ((by rw [hg]; exact Nat.ne_of_lt (blk_lt (g := gb388) (o := .cells #[.int .i64 a0_0, .int .i64 a0_1, .int .i64 a0_2, .int .i64 a0_3, .int .i64 a0_4, .int .i64 a0_5] 54 (0, 0)) (by (with_reducible repeat (first | refine blk_drewN ?_ _ | refine blk_drew ?_ | refine blk_alloc ?_ _)); exact BK388.out)) : gb388 ≠ gb402)); have n8_ := Aside0.mk ((by rw [hg]; exact Nat.ne_of_gt (blk_lt (g := gb388) (o := .cells #[.int .i64 a0_0, .int .i64 a0_1, .int .i64 a0_2, .int .i64 a0_3, .int .i64 a0_4, .int .i64 a0_5] 54 (0, 0)) (by (with_reducible repeat (first | refine blk_drewN ?_ _ | refine blk_drew ?_ | refine blk_alloc ?_ _)); exact BK388.out)) : gb402 ≠ gb388)); have n9_ := Aside0.mk ((by rw [hg]; exact Nat.ne_of_lt (blk_lt (g := gb389) (o := .cells #[.int .i64 a1_0, .int .i64 a1_1, .int .i64 a1_2, .int .i64 a1_3, .int .i64 a1_4, .int .i64 a1_5] 54 (0, 0)) (by (with_reducible repeat (first | refine blk_drewN ?_ _ | refine blk_drew ?_ | refine blk_alloc ?_ _)); exact BK389.out)) : gb389 ≠ gb402)); have n10_ := Aside0.mk ((by rw [hg]; exact Nat.ne_of_gt (blk_lt (g := gb389) (o := .cells #[.int .i64 a1_0, .int .i64 a1_1, .int .i64 a1_2, .int .i64 a1_3, .int .i64 a1_4, .int .i64 a1_5] 54 (0, 0)) (by (with_reducible repeat (first | refine blk_drewN ?_ _ | refine blk_drew ?_ | refine blk_alloc ?_ _)); exact BK389.out)) : gb402 ≠ gb389)); clear HO395; clear BK388; clear BK389; clear HB; have HO395 := n0_; have BK388 := n1_; have BK389 := n2_; have HB := n3_; have BK402 := n4_; have GW402 := n5_; have GE402 := n6_; have NB388_402 := n7_; have NB402_388 := n8_; have NB389_402 := n9_; have NB402_389 := n10_; clear n0_ n1_ n2_ n3_ n4_ n5_ n6_ n7_ n8_ n9_ n10_; clear hb hbox hg; have hnb44 := NB402_388.out; have hnc44 := NB388_402.out; have hnb45 := NB402_389.out; have hnc45 := NB389_402.out; have hcz46_0 : w43.cell? ⟨gb402, 0, none⟩ = some (.int .i64 0) := (blk_cell BK402.out 0).trans rfl; have hcz46_1 : w43.cell? ⟨gb402, 1, none⟩ = some (.int .i64 0) := (blk_cell BK402.out 1).trans rfl; have hcz46_2 : w43.cell? ⟨gb402, 2, none⟩ = some (.int .i64 0) := (blk_cell BK402.out 2).trans rfl; have hcz46_3 : w43.cell? ⟨gb402, 3, none⟩ = some (.int .i64 0) := (blk_cell BK402.out 3).trans rfl; have hcz46_4 : w43.cell? ⟨gb402, 4, none⟩ = some (.int .i64 0) := (blk_cell BK402.out 4).trans rfl; have hcz46_5 : w43.cell? ⟨gb402, 5, none⟩ = some (.int .i64 0) := (blk_cell BK402.out 5).trans rfl; have hfz46_0 := blk_frozen BK402.out 0; have hfz46_1 := blk_frozen BK402.out 1; have hfz46_2 := blk_frozen BK402.out 2; have hfz46_3 := blk_frozen BK402.out 3; have hfz46_4 := blk_frozen BK402.out 4; have hfz46_5 := blk_frozen BK402.out 5; have hcz47_0 : w43.cell? ⟨gb388, 0, none⟩ = some (.int .i64 a0_0) := (blk_cell BK388.out 0).trans rfl; have hcz47_1 : w43.cell? ⟨gb388, 1, none⟩ = some (.int .i64 a0_1) := (blk_cell BK388.out 1).trans rfl; have hcz47_2 : w43.cell? ⟨gb388, 2, none⟩ = some (.int .i64 a0_2) := (blk_cell BK388.out 2).trans rfl; have hcz47_3 : w43.cell? ⟨gb388, 3, none⟩ = some (.int .i64 a0_3) := (blk_cell BK388.out 3).trans rfl; have hcz47_4 : w43.cell? ⟨gb388, 4, none⟩ = some (.int .i64 a0_4) := (blk_cell BK388.out 4).trans rfl; have hcz47_5 : w43.cell? ⟨gb388, 5, none⟩ = some (.int .i64 a0_5) := (blk_cell BK388.out 5).trans rfl; have hfz47_0 := blk_frozen BK388.out 0; have hfz47_1 := blk_frozen BK388.out 1; have hfz47_2 := blk_frozen BK388.out 2; have hfz47_3 := blk_frozen BK388.out 3; have hfz47_4 := blk_frozen BK388.out 4; have hfz47_5 := blk_frozen BK388.out 5; have hcz48_0 : w43.cell? ⟨gb389, 0, none⟩ = some (.int .i64 a1_0) := (blk_cell BK389.out 0).trans rfl; have hcz48_1 : w43.cell? ⟨gb389, 1, none⟩ = some (.int .i64 a1_1) := (blk_cell BK389.out 1).trans rfl; have hcz48_2 : w43.cell? ⟨gb389, 2, none⟩ = some (.int .i64 a1_2) := (blk_cell BK389.out 2).trans rfl; have hcz48_3 : w43.cell? ⟨gb389, 3, none⟩ = some (.int .i64 a1_3) := (blk_cell BK389.out 3).trans rfl; have hcz48_4 : w43.cell? ⟨gb389, 4, none⟩ = some (.int .i64 a1_4) := (blk_cell BK389.out 4).trans rfl; have hcz48_5 : w43.cell? ⟨gb389, 5, none⟩ = some (.int .i64 a1_5) := (blk_cell BK389.out 5).trans rfl; have hfz48_0 := blk_frozen BK389.out 0; have hfz48_1 := blk_frozen BK389.out 1; have hfz48_2 := blk_frozen BK389.out 2; have hfz48_3 := blk_frozen BK389.out 3; have hfz48_4 := blk_frozen BK389.out 4; have hfz48_5 := blk_frozen BK389.out 5) | ((with_reducible refine gate_dst (N := 8) rfl ?_); (try (refine gate_guard (by rfl) ?_; dsimp only)); refine box_event ?hg (N := 8) ?hd (cs := #[.int .i64 0, .int .i64 0, .int .i64 0, .int .i64 0, .int .i64 0, .int .i64 0]) (t := 54) ?hr ?_; (case hd => rfl); (case hg => rfl); (case hr => first | (go_simp; done) | (go_simp; rfl)); intro gb403 hg w49 hbox hb; have n0_ := Aside0.mk (Kd.R_below (Kd.R_elderB (by (with_reducible repeat (first | apply Kd.R_alloc | apply Kd.R_drewN | apply Kd.R_drew)); exact (Kd.R_mono (Kd.R_far (p := ⟨gb402, 5, none⟩) (Kd.R_far (p := ⟨gb402, 4, none⟩) (Kd.R_far (p := ⟨gb402, 3, none⟩) (Kd.R_far (p := ⟨gb402, 2, none⟩) (Kd.R_far (p := ⟨gb402, 1, none⟩) (Kd.R_far (p := ⟨gb402, 0, none⟩) (Kd.R_mono HO395.out (fun k_ hk => (⟨hk, hk.2⟩ : _ ∧ k_ ≠ gb402))) (fun _ hk => hk.2) (.int .i64 t396)) (fun _ hk => hk.2) (.int .i64 t397)) (fun _ hk => hk.2) (.int .i64 t398)) (fun _ hk => hk.2) (.int .i64 t399)) (fun _ hk => hk.2) (.int .i64 t400)) (fun _ hk => hk.2) (.int .i64 t401)) (fun _ h_ => h_.1))) gb403 (Nat.le_of_eq hg.symm)) hb); have n1_ := Aside0.mk (blk_below (g := gb388) (o := .cells #[.int .i64 a0_0, .int .i64 a0_1, .int .i64 a0_2, .int .i64 a0_3, .int .i64 a0_4, .int .i64 a0_5] 54 (0, 0)) (by (with_reducible repeat (first | refine blk_drewN ?_ _ | refine blk_drew ?_ | refine blk_alloc ?_ _)); refine blk_far ?_ NB388_402.out _; (with_reducible repeat (first | refine blk_drewN ?_ _ | refine blk_drew ?_ | refine blk_alloc ?_ _)); refine blk_far ?_ NB388_402.out _; (with_reducible repeat (first | refine blk_drewN ?_ _ | refine blk_drew ?_ | refine blk_alloc ?_ _)); refine blk_far ?_ NB388_402.out _; (with_reducible repeat (first | refine blk_drewN ?_ _ | refine blk_drew ?_ | refine blk_alloc ?_ _)); refine blk_far ?_ NB388_402.out _; (with_reducible repeat (first | refine blk_drewN ?_ _ | refine blk_drew ?_ | refine blk_alloc ?_ _)); refine blk_far ?_ NB388_402.out _; (with_reducible repeat (first | refine blk_drewN ?_ _ | refine blk_drew ?_ | refine blk_alloc ?_ _)); refine blk_far ?_ NB388_402.out _; (with_reducible repeat (first | refine blk_drewN ?_ _ | refine blk_drew ?_ | refine blk_alloc ?_ _)); exact BK388.out) hb); have n2_ := Aside0.mk (blk_below (g := gb389) (o := .cells #[.int .i64 a1_0, .int .i64 a1_1, .int .i64 a1_2, .int .i64 a1_3, .int .i64 a1_4, .int .i64 a1_5] 54 (0, 0)) (by (with_reducible repeat (first | refine blk_drewN ?_ _ | refine blk_drew ?_ | refine blk_alloc ?_ _)); refine blk_far ?_ NB389_402.out _; (with_reducible repeat (first | refine blk_drewN ?_ _ | refine blk_drew ?_ | refine blk_alloc ?_ _)); refine blk_far ?_ NB389_402.out _; (with_reducible repeat (first | refine blk_drewN ?_ _ | refine blk_drew ?_ | refine blk_alloc ?_ _)); refine blk_far ?_ NB389_402.out _; (with_reducible repeat (first | refine blk_drewN ?_ _ | refine blk_drew ?_ | refine blk_alloc ?_ _)); refine blk_far ?_ NB389_402.out _; (with_reducible repeat (first | refine blk_drewN ?_ _ | refine blk_drew ?_ | refine blk_alloc ?_ _)); refine blk_far ?_ NB389_402.out _; (with_reducible repeat (first | refine blk_drewN ?_ _ | refine blk_drew ?_ | refine blk_alloc ?_ _)); refine blk_far ?_ NB389_402.out _; (with_reducible repeat (first | refine blk_drewN ?_ _ | refine blk_drew ?_ | refine blk_alloc ?_ _)); exact BK389.out) hb); have n3_ := Aside0.mk (blk_below (g := gb402) (o := .cells #[.int .i64 t396, .int .i64 t397, .int .i64 t398, .int .i64 t399, .int .i64 t400, .int .i64 t401] 54 (0, 0)) (by (with_reducible repeat (first | refine blk_drewN ?_ _ | refine blk_drew ?_ | refine blk_alloc ?_ _)); refine blk_put (cs := #[.int .i64 t396, .int .i64 t397, .int .i64 t398, .int .i64 t399, .int .i64 t400, .int .i64 0]) ?_ 5 _ rfl; (with_reducible repeat (first | refine blk_drewN ?_ _ | refine blk_drew ?_ | refine blk_alloc ?_ _)); refine blk_put (cs := #[.int .i64 t396, .int .i64 t397, .int .i64 t398, .int .i64 t399, .int .i64 0, .int .i64 0]) ?_ 4 _ rfl; (with_reducible repeat (first | refine blk_drewN ?_ _ | refine blk_drew ?_ | refine blk_alloc ?_ _)); refine blk_put (cs := #[.int .i64 t396, .int .i64 t397, .int .i64 t398, .int .i64 0, .int .i64 0, .int .i64 0]) ?_ 3 _ rfl; (with_reducible repeat (first | refine blk_drewN ?_ _ | refine blk_drew ?_ | refine blk_alloc ?_ _)); refine blk_put (cs := #[.int .i64 t396, .int .i64 t397, .int .i64 0, .int .i64 0, .int .i64 0, .int .i64 0]) ?_ 2 _ rfl; (with_reducible repeat (first | refine blk_drewN ?_ _ | refine blk_drew ?_ | refine blk_alloc ?_ _)); refine blk_put (cs := #[.int .i64 t396, .int .i64 0, .int .i64 0, .int .i64 0, .int .i64 0, .int .i64 0]) ?_ 1 _ rfl; (with_reducible repeat (first | refine blk_drewN ?_ _ | refine blk_drew ?_ | refine blk_alloc ?_ _)); refine blk_put (cs := #[.int .i64 0, .int .i64 0, .int .i64 0, .int .i64 0, .int .i64 0, .int .i64 0]) ?_ 0 _ rfl; (with_reducible repeat (first | refine blk_drewN ?_ _ | refine blk_drew ?_ | refine blk_alloc ?_ _)); exact BK402.out) hb); have n4_ := Aside0.mk (below_step (by repeat (first | (with_reducible first | exact HB.out | apply below_alloc | apply pw_below_drewN | apply below_drew1 | refine below_set ?_ GE388.out | refine below_set ?_ GE389.out | refine below_set ?_ GE402.out) | exact HB.out)) hb); have n5_ := Aside0.mk (hbox); have n6_ := Aside0.mk ((by rw [hg]; exact (below_size (by repeat (first | (with_reducible first | exact HB.out | apply below_alloc | apply pw_below_drewN | apply below_drew1 | refine below_set ?_ GE388.out | refine below_set ?_ GE389.out | refine below_set ?_ GE402.out) | exact HB.out))) : w.heap.size ≤ gb403)); have n7_ := Aside0.mk ((by rw [hg]; exact (below_size (by repeat (first | (with_reducible first | exact HB.out | apply below_alloc | apply pw_below_drewN | apply below_drew1 | refine below_set ?_ GE388.out | refine below_set ?_ GE389.out | refine below_set ?_ GE402.out) | exact HB.out))) : w.heap.size ≤ gb403)); have n8_ := Aside0.mk ((by rw [hg]; exact Nat.ne_of_lt (blk_lt (g := gb388) (o := .cells #[.int .i64 a0_0, .int .i64 a0_1, .int .i64 a0_2, .int .i64 a0_3, .int .i64 a0_4, .int .i64 a0_5] 54 (0, 0)) (by (with_reducible repeat (first | refine blk_drewN ?_ _ | refine blk_drew ?_ | refine blk_alloc ?_ _)); refine blk_far ?_ NB388_402.out _; (with_reducible repeat (first | refine blk_drewN ?_ _ | refine blk_drew ?_ | refine blk_alloc ?_ _)); refine blk_far ?_ NB388_402.out _; (with_reducible repeat (first | refine blk_drewN ?_ _ | refine blk_drew ?_ | refine blk_alloc ?_ _)); refine blk_far ?_ NB388_402.out _; (with_reducible repeat (first | refine blk_drewN ?_ _ | refine blk_drew ?_ | refine blk_alloc ?_ _)); refine blk_far ?_ NB388_402.out _; (with_reducible repeat (first | refine blk_drewN ?_ _ | refine blk_drew ?_ | refine blk_alloc ?_ _)); refine blk_far ?_ NB388_402.out _; (with_reducible repeat (first | refine blk_drewN ?_ _ | refine blk_drew ?_ | refine blk_alloc ?_ _)); refine blk_far ?_ NB388_402.out _; (with_reducible repeat (first | refine blk_drewN ?_ _ | refine blk_drew ?_ | refine blk_alloc ?_ _)); exact BK388.out)) : gb388 ≠ gb403)); have n9_ := Aside0.mk ((by rw [hg]; exact Nat.ne_of_gt (blk_lt (g := gb388) (o := .cells #[.int .i64 a0_0, .int .i64 a0_1, .int .i64 a0_2, .int .i64 a0_3, .int .i64 a0_4, .int .i64 a0_5] 54 (0, 0)) (by (with_reducible repeat (first | refine blk_drewN ?_ _ | refine blk_drew ?_ | refine blk_alloc ?_ _)); refine blk_far ?_ NB388_402.out _; (with_reducible repeat (first | refine blk_drewN ?_ _ | refine blk_drew ?_ | refine blk_alloc ?_ _)); refine blk_far ?_ NB388_402.out _; (with_reducible repeat (first | refine blk_drewN ?_ _ | refine blk_drew ?_ | refine blk_alloc ?_ _)); refine blk_far ?_ NB388_402.out _; (with_reducible repeat (first | refine blk_drewN ?_ _ | refine blk_drew ?_ | refine blk_alloc ?_ _)); refine blk_far ?_ NB388_402.out _; (with_reducible repeat (first | refine blk_drewN ?_ _ | refine blk_drew ?_ | refine blk_alloc ?_ _)); refine blk_far ?_ NB388_402.out _; (with_reducible repeat (first | refine blk_drewN ?_ _ | refine blk_drew ?_ | refine blk_alloc ?_ _)); refine blk_far ?_ NB388_402.out _; (with_reducible repeat (first | refine blk_drewN ?_ _ | refine blk_drew ?_ | refine blk_alloc ?_ _)); exact BK388.out)) : gb403 ≠ gb388)); have n10_ := Aside0.mk ((by rw [hg]; exact Nat.ne_of_lt (blk_lt (g := gb389) (o := .cells #[.int .i64 a1_0, .int .i64 a1_1, .int .i64 a1_2, .int .i64 a1_3, .int .i64 a1_4, .int .i64 a1_5] 54 (0, 0)) (by (with_reducible repeat (first | refine blk_drewN ?_ _ | refine blk_drew ?_ | refine blk_alloc ?_ _)); refine blk_far ?_ NB389_402.out _; (with_reducible repeat (first | refine blk_drewN ?_ _ | refine blk_drew ?_ | refine blk_alloc ?_ _)); refine blk_far ?_ NB389_402.out _; (with_reducible repeat (first | refine blk_drewN ?_ _ | refine blk_drew ?_ | refine blk_alloc ?_ _)); refine blk_far ?_ NB389_402.out _; (with_reducible repeat (first | refine blk_drewN ?_ _ | refine blk_drew ?_ | refine blk_alloc ?_ _)); refine blk_far ?_ NB389_402.out _; (with_reducible repeat (first | refine blk_drewN ?_ _ | refine blk_drew ?_ | refine blk_alloc ?_ _)); refine blk_far ?_ NB389_402.out _; (with_reducible repeat (first | refine blk_drewN ?_ _ | refine blk_drew ?_ | refine blk_alloc ?_ _)); refine blk_far ?_ NB389_402.out _; (with_reducible repeat (first | refine blk_drewN ?_ _ | refine blk_drew ?_ | refine blk_alloc ?_ _)); exact BK389.out)) : gb389 ≠ gb403)); have n11_ := Aside0.mk ((by rw [hg]; exact Nat.ne_of_gt (blk_lt (g := gb389) (o := .cells #[.int .i64 a1_0, .int .i64 a1_1, .int .i64 a1_2, .int .i64 a1_3, .int .i64 a1_4, .int .i64 a1_5] 54 (0, 0)) (by (with_reducible repeat (first | refine blk_drewN ?_ _ | refine blk_drew ?_ | refine blk_alloc ?_ _)); refine blk_far ?_ NB389_402.out _; (with_reducible repeat (first | refine blk_drewN ?_ _ | refine blk_drew ?_ | refine blk_alloc ?_ _)); refine blk_far ?_ NB389_402.out _; (with_reducible repeat (first | refine blk_drewN ?_ _ | refine blk_drew ?_ | refine blk_alloc ?_ _)); refine blk_far ?_ NB389_402.out _; (with_reducible repeat (first | refine blk_drewN ?_ _ | refine blk_drew ?_ | refine blk_alloc ?_ _)); refine blk_far ?_ NB389_402.out _; (with_reducible repeat (first | refine blk_drewN ?_ _ | refine blk_drew ?_ | refine blk_alloc ?_ _)); refine blk_far ?_ NB389_402.out _; (with_reducible repeat (first | refine blk_drewN ?_ _ | refine blk_drew ?_ | refine blk_alloc ?_ _)); refine blk_far ?_ NB389_402.out _; (with_reducible repeat (first | refine blk_drewN ?_ _ | refine blk_drew ?_ | refine blk_alloc ?_ _)); exact BK389.out)) : gb403 ≠ gb389)); have n12_ := Aside0.mk ((by rw [hg]; exact Nat.ne_of_lt (blk_lt (g := gb402) (o := .cells #[.int .i64 t396, .int .i64 t397, .int .i64 t398, .int .i64 t399, .int .i64 t400, .int .i64 t401] 54 (0, 0)) (by (with_reducible repeat (first | refine blk_drewN ?_ _ | refine blk_drew ?_ | refine blk_alloc ?_ _)); refine blk_put (cs := #[.int .i64 t396, .int .i64 t397, .int .i64 t398, .int .i64 t399, .int .i64 t400, .int .i64 0]) ?_ 5 _ rfl; (with_reducible repeat (first | refine blk_drewN ?_ _ | refine blk_drew ?_ | refine blk_alloc ?_ _)); refine blk_put (cs := #[.int .i64 t396, .int .i64 t397, .int .i64 t398, .int .i64 t399, .int .i64 0, .int .i64 0]) ?_ 4 _ rfl; (with_reducible repeat (first | refine blk_drewN ?_ _ | refine blk_drew ?_ | refine blk_alloc ?_ _)); refine blk_put (cs := #[.int .i64 t396, .int .i64 t397, .int .i64 t398, .int .i64 0, .int .i64 0, .int .i64 0]) ?_ 3 _ rfl; (with_reducible repeat (first | refine blk_drewN ?_ _ | refine blk_drew ?_ | refine blk_alloc ?_ _)); refine blk_put (cs := #[.int .i64 t396, .int .i64 t397, .int .i64 0, .int .i64 0, .int .i64 0, .int .i64 0]) ?_ 2 _ rfl; (with_reducible repeat (first | refine blk_drewN ?_ _ | refine blk_drew ?_ | refine blk_alloc ?_ _)); refine blk_put (cs := #[.int .i64 t396, .int .i64 0, .int .i64 0, .int .i64 0, .int .i64 0, .int .i64 0]) ?_ 1 _ rfl; (with_reducible repeat (first | refine blk_drewN ?_ _ | refine blk_drew ?_ | refine blk_alloc ?_ _)); refine blk_put (cs := #[.int .i64 0, .int .i64 0, .int .i64 0, .int .i64 0, .int .i64 0, .int .i64 0]) ?_ 0 _ rfl; (with_reducible repeat (first | refine blk_drewN ?_ _ | refine blk_drew ?_ | refine blk_alloc ?_ _)); exact BK402.out)) : gb402 ≠ gb403)); have n13_ := Aside0.mk ((by rw [hg]; exact Nat.ne_of_gt (blk_lt (g := gb402) (o := .cells #[.int .i64 t396, .int .i64 t397, .int .i64 t398, .int .i64 t399, .int .i64 t400, .int .i64 t401] 54 (0, 0)) (by (with_reducible repeat (first | refine blk_drewN ?_ _ | refine blk_drew ?_ | refine blk_alloc ?_ _)); refine blk_put (cs := #[.int .i64 t396, .int .i64 t397, .int .i64 t398, .int .i64 t399, .int .i64 t400, .int .i64 0]) ?_ 5 _ rfl; (with_reducible repeat (first | refine blk_drewN ?_ _ | refine blk_drew ?_ | refine blk_alloc ?_ _)); refine blk_put (cs := #[.int .i64 t396, .int .i64 t397, .int .i64 t398, .int .i64 t399, .int .i64 0, .int .i64 0]) ?_ 4 _ rfl; (with_reducible repeat (first | refine blk_drewN ?_ _ | refine blk_drew ?_ | refine blk_alloc ?_ _)); refine blk_put (cs := #[.int .i64 t396, .int .i64 t397, .int .i64 t398, .int .i64 0, .int .i64 0, .int .i64 0]) ?_ 3 _ rfl; (with_reducible repeat (first | refine blk_drewN ?_ _ | refine blk_drew ?_ | refine blk_alloc ?_ _)); refine blk_put (cs := #[.int .i64 t396, .int .i64 t397, .int .i64 0, .int .i64 0, .int .i64 0, .int .i64 0]) ?_ 2 _ rfl; (with_reducible repeat (first | refine blk_drewN ?_ _ | refine blk_drew ?_ | refine blk_alloc ?_ _)); refine blk_put (cs := #[.int .i64 t396, .int .i64 0, .int .i64 0, .int .i64 0, .int .i64 0, .int .i64 0]) ?_ 1 _ rfl; (with_reducible repeat (first | refine blk_drewN ?_ _ | refine blk_drew ?_ | refine blk_alloc ?_ _)); refine blk_put (cs := #[.int .i64 0, .int .i64 0, .int .i64 0, .int .i64 0, .int .i64 0, .int .i64 0]) ?_ 0 _ rfl; (with_reducible repeat (first | refine blk_drewN ?_ _ | refine blk_drew ?_ | refine blk_alloc ?_ _)); exact BK402.out)) : gb403 ≠ gb402)); clear HO395; clear BK388; clear BK389; clear BK402; clear HB; have HO395 := n0_; have BK388 := n1_; have BK389 := n2_; have BK402 := n3_; have HB := n4_; have BK403 := n5_; have GW403 := n6_; have GE403 := n7_; have NB388_403 := n8_; have NB403_388 := n9_; have NB389_403 := n10_; have NB403_389 := n11_; have NB402_403 := n12_; have NB403_402 := n13_; clear n0_ n1_ n2_ n3_ n4_ n5_ n6_ n7_ n8_ n9_ n10_ n11_ n12_ n13_; clear hb hbox hg; have hnb50 := NB403_388.out; have hnc50 := NB388_403.out; have hnb51 := NB403_389.out; have hnc51 := NB389_403.out; have hnb52 := NB403_402.out; have hnc52 := NB402_403.out; have hcz53_0 : w49.cell? ⟨gb403, 0, none⟩ = some (.int .i64 0) := (blk_cell BK403.out 0).trans rfl; have hcz53_1 : w49.cell? ⟨gb403, 1, none⟩ = some (.int .i64 0) := (blk_cell BK403.out 1).trans rfl; have hcz53_2 : w49.cell? ⟨gb403, 2, none⟩ = some (.int .i64 0) := (blk_cell BK403.out 2).trans rfl; have hcz53_3 : w49.cell? ⟨gb403, 3, none⟩ = some (.int .i64 0) := (blk_cell BK403.out 3).trans rfl; have hcz53_4 : w49.cell? ⟨gb403, 4, none⟩ = some (.int .i64 0) := (blk_cell BK403.out 4).trans rfl; have hcz53_5 : w49.cell? ⟨gb403, 5, none⟩ = some (.int .i64 0) := (blk_cell BK403.out 5).trans rfl; have hfz53_0 := blk_frozen BK403.out 0; have hfz53_1 := blk_frozen BK403.out 1; have hfz53_2 := blk_frozen BK403.out 2; have hfz53_3 := blk_frozen BK403.out 3; have hfz53_4 := blk_frozen BK403.out 4; have hfz53_5 := blk_frozen BK403.out 5))
                    have n0_ : Aside0 (Kd.R k54 54 ((((((w49.setCell ⟨gb403, 0, none⟩ (.int .i64 (wrap64 (a0_0 + a1_0)))).setCell ⟨gb403, 1, none⟩ (.int .i64 (wrap64 (a0_1 + a1_1)))).setCell ⟨gb403, 2, none⟩ (.int .i64 (wrap64 (a0_2 + a1_2)))).setCell ⟨gb403, 3, none⟩ (.int .i64 (wrap64 (a0_3 + a1_3)))).setCell ⟨gb403, 4, none⟩ (.int .i64 ji23)).setCell ⟨gb403, 5, none⟩ (.int .i64 (wrap64 (a0_5 + a1_5)))) w.heap.size (fun k_ => k_ ≠ gb388 ∧ k_ ≠ gb389 ∧ k_ ≠ gb402 ∧ k_ ≠ gb403) (.slice Ao41 y393.length co41) y393) := ⟨by (with_reducible repeat (first | apply Kd.R_alloc | apply Kd.R_drewN | apply Kd.R_drew)); exact Kd.R_mono (Kd.R_far (p := ⟨gb403, 5, none⟩) (Kd.R_far (p := ⟨gb403, 4, none⟩) (Kd.R_far (p := ⟨gb403, 3, none⟩) (Kd.R_far (p := ⟨gb403, 2, none⟩) (Kd.R_far (p := ⟨gb403, 1, none⟩) (Kd.R_far (p := ⟨gb403, 0, none⟩) (Kd.R_mono HO395.out (fun k_ hk => (⟨hk, hk.2⟩ : _ ∧ k_ ≠ gb403))) (fun _ hk => hk.2) (.int .i64 (wrap64 (a0_0 + a1_0)))) (fun _ hk => hk.2) (.int .i64 (wrap64 (a0_1 + a1_1)))) (fun _ hk => hk.2) (.int .i64 (wrap64 (a0_2 + a1_2)))) (fun _ hk => hk.2) (.int .i64 (wrap64 (a0_3 + a1_3)))) (fun _ hk => hk.2) (.int .i64 ji23)) (fun _ hk => hk.2) (.int .i64 (wrap64 (a0_5 + a1_5)))) (fun _ hk => ⟨hk.1.1.1.1.2, ⟨hk.1.1.1.2, ⟨hk.1.1.2, hk.1.2⟩⟩⟩)⟩
                    have n1_ : Aside0 (((((((w49.setCell ⟨gb403, 0, none⟩ (.int .i64 (wrap64 (a0_0 + a1_0)))).setCell ⟨gb403, 1, none⟩ (.int .i64 (wrap64 (a0_1 + a1_1)))).setCell ⟨gb403, 2, none⟩ (.int .i64 (wrap64 (a0_2 + a1_2)))).setCell ⟨gb403, 3, none⟩ (.int .i64 (wrap64 (a0_3 + a1_3)))).setCell ⟨gb403, 4, none⟩ (.int .i64 ji23)).setCell ⟨gb403, 5, none⟩ (.int .i64 (wrap64 (a0_5 + a1_5)))).heap[gb388]? = some (.cells #[.int .i64 a0_0, .int .i64 a0_1, .int .i64 a0_2, .int .i64 a0_3, .int .i64 a0_4, .int .i64 a0_5] 54 (0, 0))) := ⟨by (with_reducible repeat (first | refine blk_drewN ?_ _ | refine blk_drew ?_ | refine blk_alloc ?_ _)); refine blk_far ?_ NB388_403.out _; (with_reducible repeat (first | refine blk_drewN ?_ _ | refine blk_drew ?_ | refine blk_alloc ?_ _)); refine blk_far ?_ NB388_403.out _; (with_reducible repeat (first | refine blk_drewN ?_ _ | refine blk_drew ?_ | refine blk_alloc ?_ _)); refine blk_far ?_ NB388_403.out _; (with_reducible repeat (first | refine blk_drewN ?_ _ | refine blk_drew ?_ | refine blk_alloc ?_ _)); refine blk_far ?_ NB388_403.out _; (with_reducible repeat (first | refine blk_drewN ?_ _ | refine blk_drew ?_ | refine blk_alloc ?_ _)); refine blk_far ?_ NB388_403.out _; (with_reducible repeat (first | refine blk_drewN ?_ _ | refine blk_drew ?_ | refine blk_alloc ?_ _)); refine blk_far ?_ NB388_403.out _; (with_reducible repeat (first | refine blk_drewN ?_ _ | refine blk_drew ?_ | refine blk_alloc ?_ _)); exact BK388.out⟩
                    have n2_ : Aside0 (((((((w49.setCell ⟨gb403, 0, none⟩ (.int .i64 (wrap64 (a0_0 + a1_0)))).setCell ⟨gb403, 1, none⟩ (.int .i64 (wrap64 (a0_1 + a1_1)))).setCell ⟨gb403, 2, none⟩ (.int .i64 (wrap64 (a0_2 + a1_2)))).setCell ⟨gb403, 3, none⟩ (.int .i64 (wrap64 (a0_3 + a1_3)))).setCell ⟨gb403, 4, none⟩ (.int .i64 ji23)).setCell ⟨gb403, 5, none⟩ (.int .i64 (wrap64 (a0_5 + a1_5)))).heap[gb389]? = some (.cells #[.int .i64 a1_0, .int .i64 a1_1, .int .i64 a1_2, .int .i64 a1_3, .int .i64 a1_4, .int .i64 a1_5] 54 (0, 0))) := ⟨by (with_reducible repeat (first | refine blk_drewN ?_ _ | refine blk_drew ?_ | refine blk_alloc ?_ _)); refine blk_far ?_ NB389_403.out _; (with_reducible repeat (first | refine blk_drewN ?_ _ | refine blk_drew ?_ | refine blk_alloc ?_ _)); refine blk_far ?_ NB389_403.out _; (with_reducible repeat (first | refine blk_drewN ?_ _ | refine blk_drew ?_ | refine blk_alloc ?_ _)); refine blk_far ?_ NB389_403.out _; (with_reducible repeat (first | refine blk_drewN ?_ _ | refine blk_drew ?_ | refine blk_alloc ?_ _)); refine blk_far ?_ NB389_403.out _; (with_reducible repeat (first | refine blk_drewN ?_ _ | refine blk_drew ?_ | refine blk_alloc ?_ _)); refine blk_far ?_ NB389_403.out _; (with_reducible repeat (first | refine blk_drewN ?_ _ | refine blk_drew ?_ | refine blk_alloc ?_ _)); refine blk_far ?_ NB389_403.out _; (with_reducible repeat (first | refine blk_drewN ?_ _ | refine blk_drew ?_ | refine blk_alloc ?_ _)); exact BK389.out⟩
                    have n3_ : Aside0 (((((((w49.setCell ⟨gb403, 0, none⟩ (.int .i64 (wrap64 (a0_0 + a1_0)))).setCell ⟨gb403, 1, none⟩ (.int .i64 (wrap64 (a0_1 + a1_1)))).setCell ⟨gb403, 2, none⟩ (.int .i64 (wrap64 (a0_2 + a1_2)))).setCell ⟨gb403, 3, none⟩ (.int .i64 (wrap64 (a0_3 + a1_3)))).setCell ⟨gb403, 4, none⟩ (.int .i64 ji23)).setCell ⟨gb403, 5, none⟩ (.int .i64 (wrap64 (a0_5 + a1_5)))).heap[gb402]? = some (.cells #[.int .i64 t396, .int .i64 t397, .int .i64 t398, .int .i64 t399, .int .i64 t400, .int .i64 t401] 54 (0, 0))) := ⟨by (with_reducible repeat (first | refine blk_drewN ?_ _ | refine blk_drew ?_ | refine blk_alloc ?_ _)); refine blk_far ?_ NB402_403.out _; (with_reducible repeat (first | refine blk_drewN ?_ _ | refine blk_drew ?_ | refine blk_alloc ?_ _)); refine blk_far ?_ NB402_403.out _; (with_reducible repeat (first | refine blk_drewN ?_ _ | refine blk_drew ?_ | refine blk_alloc ?_ _)); refine blk_far ?_ NB402_403.out _; (with_reducible repeat (first | refine blk_drewN ?_ _ | refine blk_drew ?_ | refine blk_alloc ?_ _)); refine blk_far ?_ NB402_403.out _; (with_reducible repeat (first | refine blk_drewN ?_ _ | refine blk_drew ?_ | refine blk_alloc ?_ _)); refine blk_far ?_ NB402_403.out _; (with_reducible repeat (first | refine blk_drewN ?_ _ | refine blk_drew ?_ | refine blk_alloc ?_ _)); refine blk_far ?_ NB402_403.out _; (with_reducible repeat (first | refine blk_drewN ?_ _ | refine blk_drew ?_ | refine blk_alloc ?_ _)); exact BK402.out⟩
                    have n4_ : Aside0 (((((((w49.setCell ⟨gb403, 0, none⟩ (.int .i64 (wrap64 (a0_0 + a1_0)))).setCell ⟨gb403, 1, none⟩ (.int .i64 (wrap64 (a0_1 + a1_1)))).setCell ⟨gb403, 2, none⟩ (.int .i64 (wrap64 (a0_2 + a1_2)))).setCell ⟨gb403, 3, none⟩ (.int .i64 (wrap64 (a0_3 + a1_3)))).setCell ⟨gb403, 4, none⟩ (.int .i64 ji23)).setCell ⟨gb403, 5, none⟩ (.int .i64 (wrap64 (a0_5 + a1_5)))).heap[gb403]? = some (.cells #[.int .i64 (wrap64 (a0_0 + a1_0)), .int .i64 (wrap64 (a0_1 + a1_1)), .int .i64 (wrap64 (a0_2 + a1_2)), .int .i64 (wrap64 (a0_3 + a1_3)), .int .i64 ji23, .int .i64 (wrap64 (a0_5 + a1_5))] 54 (0, 0))) := ⟨by (with_reducible repeat (first | refine blk_drewN ?_ _ | refine blk_drew ?_ | refine blk_alloc ?_ _)); refine blk_put (cs := #[.int .i64 (wrap64 (a0_0 + a1_0)), .int .i64 (wrap64 (a0_1 + a1_1)), .int .i64 (wrap64 (a0_2 + a1_2)), .int .i64 (wrap64 (a0_3 + a1_3)), .int .i64 ji23, .int .i64 0]) ?_ 5 _ rfl; (with_reducible repeat (first | refine blk_drewN ?_ _ | refine blk_drew ?_ | refine blk_alloc ?_ _)); refine blk_put (cs := #[.int .i64 (wrap64 (a0_0 + a1_0)), .int .i64 (wrap64 (a0_1 + a1_1)), .int .i64 (wrap64 (a0_2 + a1_2)), .int .i64 (wrap64 (a0_3 + a1_3)), .int .i64 0, .int .i64 0]) ?_ 4 _ rfl; (with_reducible repeat (first | refine blk_drewN ?_ _ | refine blk_drew ?_ | refine blk_alloc ?_ _)); refine blk_put (cs := #[.int .i64 (wrap64 (a0_0 + a1_0)), .int .i64 (wrap64 (a0_1 + a1_1)), .int .i64 (wrap64 (a0_2 + a1_2)), .int .i64 0, .int .i64 0, .int .i64 0]) ?_ 3 _ rfl; (with_reducible repeat (first | refine blk_drewN ?_ _ | refine blk_drew ?_ | refine blk_alloc ?_ _)); refine blk_put (cs := #[.int .i64 (wrap64 (a0_0 + a1_0)), .int .i64 (wrap64 (a0_1 + a1_1)), .int .i64 0, .int .i64 0, .int .i64 0, .int .i64 0]) ?_ 2 _ rfl; (with_reducible repeat (first | refine blk_drewN ?_ _ | refine blk_drew ?_ | refine blk_alloc ?_ _)); refine blk_put (cs := #[.int .i64 (wrap64 (a0_0 + a1_0)), .int .i64 0, .int .i64 0, .int .i64 0, .int .i64 0, .int .i64 0]) ?_ 1 _ rfl; (with_reducible repeat (first | refine blk_drewN ?_ _ | refine blk_drew ?_ | refine blk_alloc ?_ _)); refine blk_put (cs := #[.int .i64 0, .int .i64 0, .int .i64 0, .int .i64 0, .int .i64 0, .int .i64 0]) ?_ 0 _ rfl; (with_reducible repeat (first | refine blk_drewN ?_ _ | refine blk_drew ?_ | refine blk_alloc ?_ _)); exact BK403.out⟩
                    have n5_ : Aside0 (Below w.heap.size w ((((((w49.setCell ⟨gb403, 0, none⟩ (.int .i64 (wrap64 (a0_0 + a1_0)))).setCell ⟨gb403, 1, none⟩ (.int .i64 (wrap64 (a0_1 + a1_1)))).setCell ⟨gb403, 2, none⟩ (.int .i64 (wrap64 (a0_2 + a1_2)))).setCell ⟨gb403, 3, none⟩ (.int .i64 (wrap64 (a0_3 + a1_3)))).setCell ⟨gb403, 4, none⟩ (.int .i64 ji23)).setCell ⟨gb403, 5, none⟩ (.int .i64 (wrap64 (a0_5 + a1_5))))) := ⟨by repeat (first | (with_reducible first | exact HB.out | apply below_alloc | apply pw_below_drewN | apply below_drew1 | refine below_set ?_ GE388.out | refine below_set ?_ GE389.out | refine below_set ?_ GE402.out | refine below_set ?_ GE403.out) | exact HB.out)⟩
                    (try clear HO395)
                    (try clear BK388)
                    (try clear BK389)
                    (try clear BK402)
                    (try clear BK403)
                    (try clear HB)
                    generalize ((((((w49.setCell ⟨gb403, 0, none⟩ (.int .i64 (wrap64 (a0_0 + a1_0)))).setCell ⟨gb403, 1, none⟩ (.int .i64 (wrap64 (a0_1 + a1_1)))).setCell ⟨gb403, 2, none⟩ (.int .i64 (wrap64 (a0_2 + a1_2)))).setCell ⟨gb403, 3, none⟩ (.int .i64 (wrap64 (a0_3 + a1_3)))).setCell ⟨gb403, 4, none⟩ (.int .i64 ji23)).setCell ⟨gb403, 5, none⟩ (.int .i64 (wrap64 (a0_5 + a1_5)))) = w54 at n0_ n1_ n2_ n3_ n4_ n5_ ⊢
                    have HO395 := n0_
                    have BK388 := n1_
                    have BK389 := n2_
                    have BK402 := n3_
                    have BK403 := n4_
                    have HB := n5_
                    clear n0_ n1_ n2_ n3_ n4_ n5_
                    have n0_ := Aside0.mk (Kd.R_drew HO395.out)
                    have n1_ := Aside0.mk (blk_drew BK388.out)
                    have n2_ := Aside0.mk (blk_drew BK389.out)
                    have n3_ := Aside0.mk (blk_drew BK402.out)
                    have n4_ := Aside0.mk (blk_drew BK403.out)
                    have n5_ := Aside0.mk (below_drew1 HB.out)
                    clear HO395
                    clear BK388
                    clear BK389
                    clear BK402
                    clear BK403
                    clear HB
                    have HO395 := n0_
                    have BK388 := n1_
                    have BK389 := n2_
                    have BK402 := n3_
                    have BK403 := n4_
                    have HB := n5_
                    clear n0_ n1_ n2_ n3_ n4_ n5_
                    refine start_ (n := 47) (S := fun w' => w'.cell? ⟨gb388, 0, none⟩ = some (.int .i64 a0_0) ∧ w'.cell? ⟨gb388, 1, none⟩ = some (.int .i64 a0_1) ∧ w'.cell? ⟨gb388, 2, none⟩ = some (.int .i64 a0_2) ∧ w'.cell? ⟨gb388, 3, none⟩ = some (.int .i64 a0_3) ∧ w'.cell? ⟨gb388, 4, none⟩ = some (.int .i64 a0_4) ∧ w'.cell? ⟨gb388, 5, none⟩ = some (.int .i64 a0_5) ∧ w'.cell? ⟨gb402, 0, none⟩ = some (.int .i64 t396) ∧ w'.cell? ⟨gb402, 1, none⟩ = some (.int .i64 t397) ∧ w'.cell? ⟨gb402, 2, none⟩ = some (.int .i64 t398) ∧ w'.cell? ⟨gb402, 3, none⟩ = some (.int .i64 t399) ∧ w'.cell? ⟨gb402, 4, none⟩ = some (.int .i64 t400) ∧ w'.cell? ⟨gb402, 5, none⟩ = some (.int .i64 t401) ∧ w'.cell? ⟨gb403, 0, none⟩ = some (.int .i64 (wrap64 (a0_0 + a1_0))) ∧ w'.cell? ⟨gb403, 1, none⟩ = some (.int .i64 (wrap64 (a0_1 + a1_1))) ∧ w'.cell? ⟨gb403, 2, none⟩ = some (.int .i64 (wrap64 (a0_2 + a1_2))) ∧ w'.cell? ⟨gb403, 3, none⟩ = some (.int .i64 (wrap64 (a0_3 + a1_3))) ∧ w'.cell? ⟨gb403, 4, none⟩ = some (.int .i64 ji23) ∧ w'.cell? ⟨gb403, 5, none⟩ = some (.int .i64 (wrap64 (a0_5 + a1_5))) ∧ w'.cell? ⟨gb389, 0, none⟩ = some (.int .i64 a1_0) ∧ w'.cell? ⟨gb389, 1, none⟩ = some (.int .i64 a1_1) ∧ w'.cell? ⟨gb389, 2, none⟩ = some (.int .i64 a1_2) ∧ w'.cell? ⟨gb389, 3, none⟩ = some (.int .i64 a1_3) ∧ w'.cell? ⟨gb389, 4, none⟩ = some (.int .i64 a1_4) ∧ w'.cell? ⟨gb389, 5, none⟩ = some (.int .i64 a1_5)) (ds := []) #[false, false, false, false, false, false, false, false, false, false, false, false, false, false, false, false, false, false, false, false, false, false, false, false, false, false, false, false, false, false, false, false, false, false, false, false, false, false, false, false, false, false, false, false, false, false, false] (by kernel_rfl) rfl rfl ⟨(blk_cell BK388.out 0).trans rfl, (blk_cell BK388.out 1).trans rfl, (blk_cell BK388.out 2).trans rfl, (blk_cell BK388.out 3).trans rfl, (blk_cell BK388.out 4).trans rfl, (blk_cell BK388.out 5).trans rfl, (blk_cell BK402.out 0).trans rfl, (blk_cell BK402.out 1).trans rfl, (blk_cell BK402.out 2).trans rfl, (blk_cell BK402.out 3).trans rfl, (blk_cell BK402.out 4).trans rfl, (blk_cell BK402.out 5).trans rfl, (blk_cell BK403.out 0).trans rfl, (blk_cell BK403.out 1).trans rfl, (blk_cell BK403.out 2).trans rfl, (blk_cell BK403.out 3).trans rfl, (blk_cell BK403.out 4).trans rfl, (blk_cell BK403.out 5).trans rfl, (blk_cell BK389.out 0).trans rfl, (blk_cell BK389.out 1).trans rfl, (blk_cell BK389.out 2).trans rfl, (blk_cell BK389.out 3).trans rfl, (blk_cell BK389.out 4).trans rfl, (blk_cell BK389.out 5).trans rfl⟩ (fun hHeld => ?_); refine with_tabW gluepotlaw23_StatsFit.tab7 gluepotlaw23_StatsFit.bits7 (fun HT_ HW_ => ?_)
                    generalize w54.drew = w55 at HO395 BK388 BK389 BK402 BK403 HB hHeld ⊢
                    refine pure_ (i := 1) (N := some 53) (v := ?_) (a' := ?_) #[false, true, false, false, false, false, false, false, false, false, false, false, false, false, false, false, false, false, false, false, false, false, false, false, false, false, false, false, false, false, false, false, false, false, false, false, false, false, false, false, false, false, false, false, false, false, false] rfl rfl (any_of HT_.out (by kernel_rfl)) (fun _ _ _ h => h) (Or.inl ⟨by rfl, ?_⟩) ?_ ?_
                    rotate_left
                    · intro w'
                      go_simp
                      with_reducible rfl
                    rotate_left
                    · simp only [Act.put, List.setIfInBounds_toArray, List.set_cons_zero, List.set_cons_succ, i64_w, i32_w]
                      rfl
                    refine pure_ (i := 4) (N := some 56) (v := ?_) (a' := ?_) #[false, true, false, false, true, false, false, false, false, false, false, false, false, false, false, false, false, false, false, false, false, false, false, false, false, false, false, false, false, false, false, false, false, false, false, false, false, false, false, false, false, false, false, false, false, false, false] rfl rfl (any_of HT_.out (by kernel_rfl)) (fun _ _ _ h => h) (Or.inl ⟨by rfl, ?_⟩) ?_ ?_
                    rotate_left
                    · intro w'
                      go_simp
                      with_reducible rfl
                    rotate_left
                    · simp only [Act.put, List.setIfInBounds_toArray, List.set_cons_zero, List.set_cons_succ, i64_w, i32_w]
                      rfl
                    refine take_ (i := 0) (N := some 52) (v := ?_) (a' := ?_) #[true, true, false, false, true, false, false, false, false, false, false, false, false, false, false, false, false, false, false, false, false, false, false, false, false, false, false, false, false, false, false, false, false, false, false, false, false, false, false, false, false, false, false, false, false, false, false] rfl rfl (take_ofW HT_.out HW_.out (by kernel_rfl)) (fun _ _ _ h => h) (Or.inl ⟨by rfl, ?_⟩) hHeld ?_ ?_
                    rotate_left
                    · rintro w' ⟨s0, s1, s2, s3, s4, s5, s6, s7, s8, s9, s10, s11, s12, s13, s14, s15, s16, s17, s18, s19, s20, s21, s22, s23⟩
                      go_simp
                      with_reducible rfl
                    rotate_left
                    · simp only [Act.put, List.setIfInBounds_toArray, List.set_cons_zero, List.set_cons_succ, i64_w, i32_w]
                      rfl
                    refine take_ (i := 3) (N := some 55) (v := ?_) (a' := ?_) #[true, true, false, true, true, false, false, false, false, false, false, false, false, false, false, false, false, false, false, false, false, false, false, false, false, false, false, false, false, false, false, false, false, false, false, false, false, false, false, false, false, false, false, false, false, false, false] rfl rfl (take_ofW HT_.out HW_.out (by kernel_rfl)) (fun _ _ _ h => h) (Or.inl ⟨by rfl, ?_⟩) hHeld ?_ ?_
                    rotate_left
                    · rintro w' ⟨s0, s1, s2, s3, s4, s5, s6, s7, s8, s9, s10, s11, s12, s13, s14, s15, s16, s17, s18, s19, s20, s21, s22, s23⟩
                      go_simp
                      with_reducible rfl
                    rotate_left
                    · simp only [Act.put, List.setIfInBounds_toArray, List.set_cons_zero, List.set_cons_succ, i64_w, i32_w]
                      rfl
                    refine one_ (i := 2) (N := some 54) #[true, true, true, true, true, false, false, false, false, false, false, false, false, false, false, false, false, false, false, false, false, false, false, false, false, false, false, false, false, false, false, false, false, false, false, false, false, false, false, false, false, false, false, false, false, false, false] rfl rfl (one_of HT_.out (by kernel_rfl)) (by decide) (fun K hK => ?_)
                    refine goes_ Try.func32 (by kernel_rfl) rfl #[.agg #[.int .i64 a0_0, .int .i64 a0_1, .int .i64 a0_2, .int .i64 a0_3, .int .i64 a0_4, .int .i64 a0_5], .int .i64 a2] (by rfl) rfl rfl (by (try simp only [List.map_toArray, List.map_cons, List.map_nil]); first | done | rfl | (simp only [List.length_drop, List.length_take]; rfl)) ?_
                    with_reducible refine (stats_Fits.calls kj5 a0_0 a0_1 a0_2 a0_3 a0_4 a0_5 a2 t404 _ A24.out).mono ?_
                    rintro e w56 ⟨rfl, hb⟩
                    refine ⟨_, rfl, ?_⟩
                    have n0_ := Aside0.mk (Kd.R_below (by (with_reducible repeat (first | apply Kd.R_alloc | apply Kd.R_drewN | apply Kd.R_drew)); exact HO395.out) hb)
                    have n1_ := Aside0.mk (blk_below (g := gb388) (o := .cells #[.int .i64 a0_0, .int .i64 a0_1, .int .i64 a0_2, .int .i64 a0_3, .int .i64 a0_4, .int .i64 a0_5] 54 (0, 0)) (by (with_reducible repeat (first | refine blk_drewN ?_ _ | refine blk_drew ?_ | refine blk_alloc ?_ _)); exact BK388.out) hb)
                    have n2_ := Aside0.mk (blk_below (g := gb389) (o := .cells #[.int .i64 a1_0, .int .i64 a1_1, .int .i64 a1_2, .int .i64 a1_3, .int .i64 a1_4, .int .i64 a1_5] 54 (0, 0)) (by (with_reducible repeat (first | refine blk_drewN ?_ _ | refine blk_drew ?_ | refine blk_alloc ?_ _)); exact BK389.out) hb)
                    have n3_ := Aside0.mk (blk_below (g := gb402) (o := .cells #[.int .i64 t396, .int .i64 t397, .int .i64 t398, .int .i64 t399, .int .i64 t400, .int .i64 t401] 54 (0, 0)) (by (with_reducible repeat (first | refine blk_drewN ?_ _ | refine blk_drew ?_ | refine blk_alloc ?_ _)); exact BK402.out) hb)
                    have n4_ := Aside0.mk (blk_below (g := gb403) (o := .cells #[.int .i64 (wrap64 (a0_0 + a1_0)), .int .i64 (wrap64 (a0_1 + a1_1)), .int .i64 (wrap64 (a0_2 + a1_2)), .int .i64 (wrap64 (a0_3 + a1_3)), .int .i64 ji23, .int .i64 (wrap64 (a0_5 + a1_5))] 54 (0, 0)) (by (with_reducible repeat (first | refine blk_drewN ?_ _ | refine blk_drew ?_ | refine blk_alloc ?_ _)); exact BK403.out) hb)
                    have n5_ := Aside0.mk (below_step (by repeat (first | (with_reducible first | exact HB.out | apply below_alloc | apply pw_below_drewN | apply below_drew1 | refine below_set ?_ GE388.out | refine below_set ?_ GE389.out | refine below_set ?_ GE402.out | refine below_set ?_ GE403.out) | exact HB.out)) hb)
                    clear HO395
                    clear BK388
                    clear BK389
                    clear BK402
                    clear BK403
                    clear HB
                    have HO395 := n0_
                    have BK388 := n1_
                    have BK389 := n2_
                    have BK402 := n3_
                    have BK403 := n4_
                    have HB := n5_
                    clear n0_ n1_ n2_ n3_ n4_ n5_
                    (try clear hb)
                    (try clear hb2)
                    (try clear hk)
                    (try clear hi)
                    refine hK.out _ _ ⟨(blk_cell BK388.out 0).trans rfl, (blk_cell BK388.out 1).trans rfl, (blk_cell BK388.out 2).trans rfl, (blk_cell BK388.out 3).trans rfl, (blk_cell BK388.out 4).trans rfl, (blk_cell BK388.out 5).trans rfl, (blk_cell BK402.out 0).trans rfl, (blk_cell BK402.out 1).trans rfl, (blk_cell BK402.out 2).trans rfl, (blk_cell BK402.out 3).trans rfl, (blk_cell BK402.out 4).trans rfl, (blk_cell BK402.out 5).trans rfl, (blk_cell BK403.out 0).trans rfl, (blk_cell BK403.out 1).trans rfl, (blk_cell BK403.out 2).trans rfl, (blk_cell BK403.out 3).trans rfl, (blk_cell BK403.out 4).trans rfl, (blk_cell BK403.out 5).trans rfl, (blk_cell BK389.out 0).trans rfl, (blk_cell BK389.out 1).trans rfl, (blk_cell BK389.out 2).trans rfl, (blk_cell BK389.out 3).trans rfl, (blk_cell BK389.out 4).trans rfl, (blk_cell BK389.out 5).trans rfl⟩ (fun hHeld => ?_)
                    clear hK K
                    refine norm_ (a' := ?_) ?_ ?_
                    rotate_left
                    · show Act.put _ (some 54) _ = _
                      simp only [Act.put, List.setIfInBounds_toArray, List.set_cons_zero, List.set_cons_succ, i64_w, i32_w]
                      rfl
                    refine one_ (i := 5) (N := some 57) #[true, true, true, true, true, true, false, false, false, false, false, false, false, false, false, false, false, false, false, false, false, false, false, false, false, false, false, false, false, false, false, false, false, false, false, false, false, false, false, false, false, false, false, false, false, false, false] rfl rfl (one_of HT_.out (by kernel_rfl)) (by decide) (fun K hK => ?_)
                    refine goes_ Try.func33 (by kernel_rfl) rfl #[.agg #[.int .i64 a0_0, .int .i64 a0_1, .int .i64 a0_2, .int .i64 a0_3, .int .i64 a0_4, .int .i64 a0_5], .int .i64 a2] (by rfl) rfl rfl (by (try simp only [List.map_toArray, List.map_cons, List.map_nil]); first | done | rfl | (simp only [List.length_drop, List.length_take]; rfl)) ?_
                    with_reducible refine (gluepotref23_Fits.calls a0_0 a0_1 a0_2 a0_3 a0_4 a0_5 a2 t405 _ A25.out).mono ?_
                    rintro e w57 ⟨rfl, hb⟩
                    refine ⟨_, rfl, ?_⟩
                    have n0_ := Aside0.mk (Kd.R_below (by (with_reducible repeat (first | apply Kd.R_alloc | apply Kd.R_drewN | apply Kd.R_drew)); exact HO395.out) hb)
                    have n1_ := Aside0.mk (blk_below (g := gb388) (o := .cells #[.int .i64 a0_0, .int .i64 a0_1, .int .i64 a0_2, .int .i64 a0_3, .int .i64 a0_4, .int .i64 a0_5] 54 (0, 0)) (by (with_reducible repeat (first | refine blk_drewN ?_ _ | refine blk_drew ?_ | refine blk_alloc ?_ _)); exact BK388.out) hb)
                    have n2_ := Aside0.mk (blk_below (g := gb389) (o := .cells #[.int .i64 a1_0, .int .i64 a1_1, .int .i64 a1_2, .int .i64 a1_3, .int .i64 a1_4, .int .i64 a1_5] 54 (0, 0)) (by (with_reducible repeat (first | refine blk_drewN ?_ _ | refine blk_drew ?_ | refine blk_alloc ?_ _)); exact BK389.out) hb)
                    have n3_ := Aside0.mk (blk_below (g := gb402) (o := .cells #[.int .i64 t396, .int .i64 t397, .int .i64 t398, .int .i64 t399, .int .i64 t400, .int .i64 t401] 54 (0, 0)) (by (with_reducible repeat (first | refine blk_drewN ?_ _ | refine blk_drew ?_ | refine blk_alloc ?_ _)); exact BK402.out) hb)
                    have n4_ := Aside0.mk (blk_below (g := gb403) (o := .cells #[.int .i64 (wrap64 (a0_0 + a1_0)), .int .i64 (wrap64 (a0_1 + a1_1)), .int .i64 (wrap64 (a0_2 + a1_2)), .int .i64 (wrap64 (a0_3 + a1_3)), .int .i64 ji23, .int .i64 (wrap64 (a0_5 + a1_5))] 54 (0, 0)) (by (with_reducible repeat (first | refine blk_drewN ?_ _ | refine blk_drew ?_ | refine blk_alloc ?_ _)); exact BK403.out) hb)
                    have n5_ := Aside0.mk (below_step (by repeat (first | (with_reducible first | exact HB.out | apply below_alloc | apply pw_below_drewN | apply below_drew1 | refine below_set ?_ GE388.out | refine below_set ?_ GE389.out | refine below_set ?_ GE402.out | refine below_set ?_ GE403.out) | exact HB.out)) hb)
                    clear HO395
                    clear BK388
                    clear BK389
                    clear BK402
                    clear BK403
                    clear HB
                    have HO395 := n0_
                    have BK388 := n1_
                    have BK389 := n2_
                    have BK402 := n3_
                    have BK403 := n4_
                    have HB := n5_
                    clear n0_ n1_ n2_ n3_ n4_ n5_
                    (try clear hb)
                    (try clear hb2)
                    (try clear hk)
                    (try clear hi)
                    refine hK.out _ _ ⟨(blk_cell BK388.out 0).trans rfl, (blk_cell BK388.out 1).trans rfl, (blk_cell BK388.out 2).trans rfl, (blk_cell BK388.out 3).trans rfl, (blk_cell BK388.out 4).trans rfl, (blk_cell BK388.out 5).trans rfl, (blk_cell BK402.out 0).trans rfl, (blk_cell BK402.out 1).trans rfl, (blk_cell BK402.out 2).trans rfl, (blk_cell BK402.out 3).trans rfl, (blk_cell BK402.out 4).trans rfl, (blk_cell BK402.out 5).trans rfl, (blk_cell BK403.out 0).trans rfl, (blk_cell BK403.out 1).trans rfl, (blk_cell BK403.out 2).trans rfl, (blk_cell BK403.out 3).trans rfl, (blk_cell BK403.out 4).trans rfl, (blk_cell BK403.out 5).trans rfl, (blk_cell BK389.out 0).trans rfl, (blk_cell BK389.out 1).trans rfl, (blk_cell BK389.out 2).trans rfl, (blk_cell BK389.out 3).trans rfl, (blk_cell BK389.out 4).trans rfl, (blk_cell BK389.out 5).trans rfl⟩ (fun hHeld => ?_)
                    clear hK K
                    refine norm_ (a' := ?_) ?_ ?_
                    rotate_left
                    · show Act.put _ (some 57) _ = _
                      simp only [Act.put, List.setIfInBounds_toArray, List.set_cons_zero, List.set_cons_succ, i64_w, i32_w]
                      rfl
                    refine pure_ (i := 6) (N := some 58) (v := ?_) (a' := ?_) #[true, true, true, true, true, true, true, false, false, false, false, false, false, false, false, false, false, false, false, false, false, false, false, false, false, false, false, false, false, false, false, false, false, false, false, false, false, false, false, false, false, false, false, false, false, false, false] rfl rfl (any_of HT_.out (by kernel_rfl)) (fun _ _ _ h => h) (Or.inl ⟨by rfl, ?_⟩) ?_ ?_
                    rotate_left
                    · intro w'
                      go_simp
                      with_reducible rfl
                    rotate_left
                    · simp only [Act.put, List.setIfInBounds_toArray, List.set_cons_zero, List.set_cons_succ, i64_w, i32_w]
                      rfl
                    refine pure_ (i := 7) (N := some 59) (v := ?_) (a' := ?_) #[true, true, true, true, true, true, true, true, false, false, false, false, false, false, false, false, false, false, false, false, false, false, false, false, false, false, false, false, false, false, false, false, false, false, false, false, false, false, false, false, false, false, false, false, false, false, false] rfl rfl (any_of HT_.out (by kernel_rfl)) (fun _ _ _ h => h) (Or.inl ⟨by rfl, ?_⟩) ?_ ?_
                    rotate_left
                    · intro w'
                      go_simp
                      with_reducible rfl
                    rotate_left
                    · simp only [Act.put, List.setIfInBounds_toArray, List.set_cons_zero, List.set_cons_succ, i64_w, i32_w]
                      rfl
                    refine take_ (i := 8) (N := some 60) (v := ?_) (a' := ?_) #[true, true, true, true, true, true, true, true, true, false, false, false, false, false, false, false, false, false, false, false, false, false, false, false, false, false, false, false, false, false, false, false, false, false, false, false, false, false, false, false, false, false, false, false, false, false, false] rfl rfl (take_ofW HT_.out HW_.out (by kernel_rfl)) (fun _ _ _ h => h) (Or.inl ⟨by rfl, ?_⟩) hHeld ?_ ?_
                    rotate_left
                    · rintro w' ⟨s0, s1, s2, s3, s4, s5, s6, s7, s8, s9, s10, s11, s12, s13, s14, s15, s16, s17, s18, s19, s20, s21, s22, s23⟩
                      go_simp
                      with_reducible rfl
                    rotate_left
                    · simp only [Act.put, List.setIfInBounds_toArray, List.set_cons_zero, List.set_cons_succ, i64_w, i32_w]
                      rfl
                    refine take_ (i := 9) (N := some 61) (v := ?_) (a' := ?_) #[true, true, true, true, true, true, true, true, true, true, false, false, false, false, false, false, false, false, false, false, false, false, false, false, false, false, false, false, false, false, false, false, false, false, false, false, false, false, false, false, false, false, false, false, false, false, false] rfl rfl (take_ofW HT_.out HW_.out (by kernel_rfl)) (fun _ _ _ h => h) (Or.inl ⟨by rfl, ?_⟩) hHeld ?_ ?_
                    rotate_left
                    · rintro w' ⟨s0, s1, s2, s3, s4, s5, s6, s7, s8, s9, s10, s11, s12, s13, s14, s15, s16, s17, s18, s19, s20, s21, s22, s23⟩
                      go_simp
                      with_reducible rfl
                    rotate_left
                    · simp only [Act.put, List.setIfInBounds_toArray, List.set_cons_zero, List.set_cons_succ, i64_w, i32_w]
                      rfl
                    refine pure_ (i := 10) (N := some 62) (v := ?_) (a' := ?_) #[true, true, true, true, true, true, true, true, true, true, true, false, false, false, false, false, false, false, false, false, false, false, false, false, false, false, false, false, false, false, false, false, false, false, false, false, false, false, false, false, false, false, false, false, false, false, false] rfl rfl (any_of HT_.out (by kernel_rfl)) (fun _ _ _ h => h) (Or.inl ⟨by rfl, ?_⟩) ?_ ?_
                    rotate_left
                    · intro w'
                      go_simp
                      with_reducible rfl
                    rotate_left
                    · simp only [Act.put, List.setIfInBounds_toArray, List.set_cons_zero, List.set_cons_succ, i64_w, i32_w]
                      rfl
                    refine pure_ (i := 11) (N := some 63) (v := ?_) (a' := ?_) #[true, true, true, true, true, true, true, true, true, true, true, true, false, false, false, false, false, false, false, false, false, false, false, false, false, false, false, false, false, false, false, false, false, false, false, false, false, false, false, false, false, false, false, false, false, false, false] rfl rfl (any_of HT_.out (by kernel_rfl)) (fun _ _ _ h => h) (Or.inl ⟨by rfl, ?_⟩) ?_ ?_
                    rotate_left
                    · intro w'
                      go_simp
                      with_reducible rfl
                    rotate_left
                    · simp only [Act.put, List.setIfInBounds_toArray, List.set_cons_zero, List.set_cons_succ, i64_w, i32_w]
                      rfl
                    refine pure_ (i := 12) (N := some 64) (v := ?_) (a' := ?_) #[true, true, true, true, true, true, true, true, true, true, true, true, true, false, false, false, false, false, false, false, false, false, false, false, false, false, false, false, false, false, false, false, false, false, false, false, false, false, false, false, false, false, false, false, false, false, false] rfl rfl (any_of HT_.out (by kernel_rfl)) (fun _ _ _ h => h) (Or.inl ⟨by rfl, ?_⟩) ?_ ?_
                    rotate_left
                    · intro w'
                      go_simp
                      with_reducible rfl
                    rotate_left
                    · simp only [Act.put, List.setIfInBounds_toArray, List.set_cons_zero, List.set_cons_succ, i64_w, i32_w]
                      rfl
                    refine pure_ (i := 14) (N := some 66) (v := ?_) (a' := ?_) #[true, true, true, true, true, true, true, true, true, true, true, true, true, false, true, false, false, false, false, false, false, false, false, false, false, false, false, false, false, false, false, false, false, false, false, false, false, false, false, false, false, false, false, false, false, false, false] rfl rfl (any_of HT_.out (by kernel_rfl)) (fun _ _ _ h => h) (Or.inl ⟨by rfl, ?_⟩) ?_ ?_
                    rotate_left
                    · intro w'
                      go_simp
                      with_reducible rfl
                    rotate_left
                    · simp only [Act.put, List.setIfInBounds_toArray, List.set_cons_zero, List.set_cons_succ, i64_w, i32_w]
                      rfl
                    refine one_ (i := 13) (N := some 65) #[true, true, true, true, true, true, true, true, true, true, true, true, true, true, true, false, false, false, false, false, false, false, false, false, false, false, false, false, false, false, false, false, false, false, false, false, false, false, false, false, false, false, false, false, false, false, false] rfl rfl (one_of HT_.out (by kernel_rfl)) (by decide) (fun K hK => ?_)
                    refine goes_ Try.func31 (by kernel_rfl) rfl #[.slice none 0 0] (by rfl) rfl rfl (by (try simp only [List.map_toArray, List.map_cons, List.map_nil]); first | done | rfl | (simp only [List.length_drop, List.length_take]; rfl)) ?_
                    refine (stats_Total.calls kj5 _ _ ([] : List (S54)) t406 t407 t408 t409 t410 t411 _ ?side1 ?side2 A28.out).mono ?_
                    (case side1 => exact Kd.C_nil _ _)
                    (case side2 => exact Nat.le_refl _)
                    rintro e w58 ⟨rfl, hb⟩
                    refine ⟨_, rfl, ?_⟩
                    have n0_ := Aside0.mk (Kd.R_below (by (with_reducible repeat (first | apply Kd.R_alloc | apply Kd.R_drewN | apply Kd.R_drew)); exact HO395.out) hb)
                    have n1_ := Aside0.mk (blk_below (g := gb388) (o := .cells #[.int .i64 a0_0, .int .i64 a0_1, .int .i64 a0_2, .int .i64 a0_3, .int .i64 a0_4, .int .i64 a0_5] 54 (0, 0)) (by (with_reducible repeat (first | refine blk_drewN ?_ _ | refine blk_drew ?_ | refine blk_alloc ?_ _)); exact BK388.out) hb)
                    have n2_ := Aside0.mk (blk_below (g := gb389) (o := .cells #[.int .i64 a1_0, .int .i64 a1_1, .int .i64 a1_2, .int .i64 a1_3, .int .i64 a1_4, .int .i64 a1_5] 54 (0, 0)) (by (with_reducible repeat (first | refine blk_drewN ?_ _ | refine blk_drew ?_ | refine blk_alloc ?_ _)); exact BK389.out) hb)
                    have n3_ := Aside0.mk (blk_below (g := gb402) (o := .cells #[.int .i64 t396, .int .i64 t397, .int .i64 t398, .int .i64 t399, .int .i64 t400, .int .i64 t401] 54 (0, 0)) (by (with_reducible repeat (first | refine blk_drewN ?_ _ | refine blk_drew ?_ | refine blk_alloc ?_ _)); exact BK402.out) hb)
                    have n4_ := Aside0.mk (blk_below (g := gb403) (o := .cells #[.int .i64 (wrap64 (a0_0 + a1_0)), .int .i64 (wrap64 (a0_1 + a1_1)), .int .i64 (wrap64 (a0_2 + a1_2)), .int .i64 (wrap64 (a0_3 + a1_3)), .int .i64 ji23, .int .i64 (wrap64 (a0_5 + a1_5))] 54 (0, 0)) (by (with_reducible repeat (first | refine blk_drewN ?_ _ | refine blk_drew ?_ | refine blk_alloc ?_ _)); exact BK403.out) hb)
                    have n5_ := Aside0.mk (below_step (by repeat (first | (with_reducible first | exact HB.out | apply below_alloc | apply pw_below_drewN | apply below_drew1 | refine below_set ?_ GE388.out | refine below_set ?_ GE389.out | refine below_set ?_ GE402.out | refine below_set ?_ GE403.out) | exact HB.out)) hb)
                    clear HO395
                    clear BK388
                    clear BK389
                    clear BK402
                    clear BK403
                    clear HB
                    have HO395 := n0_
                    have BK388 := n1_
                    have BK389 := n2_
                    have BK402 := n3_
                    have BK403 := n4_
                    have HB := n5_
                    clear n0_ n1_ n2_ n3_ n4_ n5_
                    (try clear hb)
                    (try clear hb2)
                    (try clear hk)
                    (try clear hi)
                    refine hK.out _ _ ⟨(blk_cell BK388.out 0).trans rfl, (blk_cell BK388.out 1).trans rfl, (blk_cell BK388.out 2).trans rfl, (blk_cell BK388.out 3).trans rfl, (blk_cell BK388.out 4).trans rfl, (blk_cell BK388.out 5).trans rfl, (blk_cell BK402.out 0).trans rfl, (blk_cell BK402.out 1).trans rfl, (blk_cell BK402.out 2).trans rfl, (blk_cell BK402.out 3).trans rfl, (blk_cell BK402.out 4).trans rfl, (blk_cell BK402.out 5).trans rfl, (blk_cell BK403.out 0).trans rfl, (blk_cell BK403.out 1).trans rfl, (blk_cell BK403.out 2).trans rfl, (blk_cell BK403.out 3).trans rfl, (blk_cell BK403.out 4).trans rfl, (blk_cell BK403.out 5).trans rfl, (blk_cell BK389.out 0).trans rfl, (blk_cell BK389.out 1).trans rfl, (blk_cell BK389.out 2).trans rfl, (blk_cell BK389.out 3).trans rfl, (blk_cell BK389.out 4).trans rfl, (blk_cell BK389.out 5).trans rfl⟩ (fun hHeld => ?_)
                    clear hK K
                    refine norm_ (a' := ?_) ?_ ?_
                    rotate_left
                    · show Act.put _ (some 65) _ = _
                      simp only [Act.put, List.setIfInBounds_toArray, List.set_cons_zero, List.set_cons_succ, i64_w, i32_w]
                      rfl
                    refine pure_ (i := 15) (N := some 67) (v := ?_) (a' := ?_) #[true, true, true, true, true, true, true, true, true, true, true, true, true, true, true, true, false, false, false, false, false, false, false, false, false, false, false, false, false, false, false, false, false, false, false, false, false, false, false, false, false, false, false, false, false, false, false] rfl rfl (any_of HT_.out (by kernel_rfl)) (fun _ _ _ h => h) (Or.inl ⟨by rfl, ?_⟩) ?_ ?_
                    rotate_left
                    · intro w'
                      go_simp
                      with_reducible rfl
                    rotate_left
                    · simp only [Act.put, List.setIfInBounds_toArray, List.set_cons_zero, List.set_cons_succ, i64_w, i32_w]
                      rfl
                    refine pure_ (i := 16) (N := some 68) (v := ?_) (a' := ?_) #[true, true, true, true, true, true, true, true, true, true, true, true, true, true, true, true, true, false, false, false, false, false, false, false, false, false, false, false, false, false, false, false, false, false, false, false, false, false, false, false, false, false, false, false, false, false, false] rfl rfl (any_of HT_.out (by kernel_rfl)) (fun _ _ _ h => h) (Or.inl ⟨by rfl, ?_⟩) ?_ ?_
                    rotate_left
                    · intro w'
                      go_simp
                      with_reducible rfl
                    rotate_left
                    · simp only [Act.put, List.setIfInBounds_toArray, List.set_cons_zero, List.set_cons_succ, i64_w, i32_w]
                      rfl
                    refine pure_ (i := 17) (N := some 69) (v := ?_) (a' := ?_) #[true, true, true, true, true, true, true, true, true, true, true, true, true, true, true, true, true, true, false, false, false, false, false, false, false, false, false, false, false, false, false, false, false, false, false, false, false, false, false, false, false, false, false, false, false, false, false] rfl rfl (any_of HT_.out (by kernel_rfl)) (fun _ _ _ h => h) (Or.inl ⟨by rfl, ?_⟩) ?_ ?_
                    rotate_left
                    · intro w'
                      go_simp
                      with_reducible rfl
                    rotate_left
                    · simp only [Act.put, List.setIfInBounds_toArray, List.set_cons_zero, List.set_cons_succ, i64_w, i32_w]
                      rfl
                    refine take_ (i := 18) (N := some 70) (v := ?_) (a' := ?_) #[true, true, true, true, true, true, true, true, true, true, true, true, true, true, true, true, true, true, true, false, false, false, false, false, false, false, false, false, false, false, false, false, false, false, false, false, false, false, false, false, false, false, false, false, false, false, false] rfl rfl (take_ofW HT_.out HW_.out (by kernel_rfl)) (fun _ _ _ h => h) (Or.inl ⟨by rfl, ?_⟩) hHeld ?_ ?_
                    rotate_left
                    · rintro w' ⟨s0, s1, s2, s3, s4, s5, s6, s7, s8, s9, s10, s11, s12, s13, s14, s15, s16, s17, s18, s19, s20, s21, s22, s23⟩
                      go_simp
                      with_reducible rfl
                    rotate_left
                    · simp only [Act.put, List.setIfInBounds_toArray, List.set_cons_zero, List.set_cons_succ, i64_w, i32_w]
                      rfl
                    refine take_ (i := 21) (N := some 73) (v := ?_) (a' := ?_) #[true, true, true, true, true, true, true, true, true, true, true, true, true, true, true, true, true, true, true, false, false, true, false, false, false, false, false, false, false, false, false, false, false, false, false, false, false, false, false, false, false, false, false, false, false, false, false] rfl rfl (take_ofW HT_.out HW_.out (by kernel_rfl)) (fun _ _ _ h => h) (Or.inl ⟨by rfl, ?_⟩) hHeld ?_ ?_
                    rotate_left
                    · rintro w' ⟨s0, s1, s2, s3, s4, s5, s6, s7, s8, s9, s10, s11, s12, s13, s14, s15, s16, s17, s18, s19, s20, s21, s22, s23⟩
                      go_simp
                      with_reducible rfl
                    rotate_left
                    · simp only [Act.put, List.setIfInBounds_toArray, List.set_cons_zero, List.set_cons_succ, i64_w, i32_w]
                      rfl
                    refine one_ (i := 19) (N := some 71) #[true, true, true, true, true, true, true, true, true, true, true, true, true, true, true, true, true, true, true, true, false, true, false, false, false, false, false, false, false, false, false, false, false, false, false, false, false, false, false, false, false, false, false, false, false, false, false] rfl rfl (one_of HT_.out (by kernel_rfl)) (by decide) (fun K hK => ?_)
                    refine Kd.R_lit_step k54 _ 54 ?hg (N := 71) ?hd (xs := ([(⟨a0_0, a0_1, a0_2, a0_3, a0_4, a0_5⟩ : S54)] : List (S54))) (inner := [.int .i64 a0_0, .int .i64 a0_1, .int .i64 a0_2, .int .i64 a0_3, .int .i64 a0_4, .int .i64 a0_5]) (ok := fun _ => True) (okp := fun _ => True) ?hr ?hp (fun _ hk => hk) trivial (Below.refl _ _) (Nat.le_refl _) (by simp) ?_; (case hd => rfl); (case hg => rfl); (case hr => first | (go_simp; done) | (go_simp; rfl)); (case hp => exact (Reps.c6 (show Kd.M k54 _ _ _ (⟨a0_0, a0_1, a0_2, a0_3, a0_4, a0_5⟩ : S54) [.int .i64 a0_0, .int .i64 a0_1, .int .i64 a0_2, .int .i64 a0_3, .int .i64 a0_4, .int .i64 a0_5] from (k54_mkM _ _ _ (⟨a0_0, a0_1, a0_2, a0_3, a0_4, a0_5⟩ : S54) )) (Reps.none _ _)))
                    intro v413 w59 ho60 hb hg_ hnew_
                    clear hg_ hnew_
                    (first | rw [← Ny412.out] at ho60 | (simp only [Int.reduceToNat] at ho60; rw [← Ny412.out] at ho60))
                    have n0_ := Aside0.mk (Kd.R_elder' (by (with_reducible repeat (first | apply Kd.R_alloc | apply Kd.R_drewN | apply Kd.R_drew)); exact HO395.out) (Kd.R_base ho60) hb)
                    have n1_ := Aside0.mk (Kd.R_lower (Kd.R_newB (Kd.R_newB (Kd.R_newB (Kd.R_newB (Kd.R_new' ho60 (Kd.R_lt (by (with_reducible repeat (first | apply Kd.R_alloc | apply Kd.R_drewN | apply Kd.R_drew)); exact HO395.out))) (g := gb388) (o := .cells #[.int .i64 a0_0, .int .i64 a0_1, .int .i64 a0_2, .int .i64 a0_3, .int .i64 a0_4, .int .i64 a0_5] 54 (0, 0)) (by (with_reducible repeat (first | refine blk_drewN ?_ _ | refine blk_drew ?_ | refine blk_alloc ?_ _)); exact BK388.out)) (g := gb389) (o := .cells #[.int .i64 a1_0, .int .i64 a1_1, .int .i64 a1_2, .int .i64 a1_3, .int .i64 a1_4, .int .i64 a1_5] 54 (0, 0)) (by (with_reducible repeat (first | refine blk_drewN ?_ _ | refine blk_drew ?_ | refine blk_alloc ?_ _)); exact BK389.out)) (g := gb402) (o := .cells #[.int .i64 t396, .int .i64 t397, .int .i64 t398, .int .i64 t399, .int .i64 t400, .int .i64 t401] 54 (0, 0)) (by (with_reducible repeat (first | refine blk_drewN ?_ _ | refine blk_drew ?_ | refine blk_alloc ?_ _)); exact BK402.out)) (g := gb403) (o := .cells #[.int .i64 (wrap64 (a0_0 + a1_0)), .int .i64 (wrap64 (a0_1 + a1_1)), .int .i64 (wrap64 (a0_2 + a1_2)), .int .i64 (wrap64 (a0_3 + a1_3)), .int .i64 ji23, .int .i64 (wrap64 (a0_5 + a1_5))] 54 (0, 0)) (by (with_reducible repeat (first | refine blk_drewN ?_ _ | refine blk_drew ?_ | refine blk_alloc ?_ _)); exact BK403.out)) (below_size (by repeat (first | (with_reducible first | exact HB.out | apply below_alloc | apply pw_below_drewN | apply below_drew1 | refine below_set ?_ GE388.out | refine below_set ?_ GE389.out | refine below_set ?_ GE402.out | refine below_set ?_ GE403.out) | exact HB.out))))
                    have n2_ := Aside0.mk (blk_below (g := gb388) (o := .cells #[.int .i64 a0_0, .int .i64 a0_1, .int .i64 a0_2, .int .i64 a0_3, .int .i64 a0_4, .int .i64 a0_5] 54 (0, 0)) (by (with_reducible repeat (first | refine blk_drewN ?_ _ | refine blk_drew ?_ | refine blk_alloc ?_ _)); exact BK388.out) hb)
                    have n3_ := Aside0.mk (blk_below (g := gb389) (o := .cells #[.int .i64 a1_0, .int .i64 a1_1, .int .i64 a1_2, .int .i64 a1_3, .int .i64 a1_4, .int .i64 a1_5] 54 (0, 0)) (by (with_reducible repeat (first | refine blk_drewN ?_ _ | refine blk_drew ?_ | refine blk_alloc ?_ _)); exact BK389.out) hb)
                    have n4_ := Aside0.mk (blk_below (g := gb402) (o := .cells #[.int .i64 t396, .int .i64 t397, .int .i64 t398, .int .i64 t399, .int .i64 t400, .int .i64 t401] 54 (0, 0)) (by (with_reducible repeat (first | refine blk_drewN ?_ _ | refine blk_drew ?_ | refine blk_alloc ?_ _)); exact BK402.out) hb)
                    have n5_ := Aside0.mk (blk_below (g := gb403) (o := .cells #[.int .i64 (wrap64 (a0_0 + a1_0)), .int .i64 (wrap64 (a0_1 + a1_1)), .int .i64 (wrap64 (a0_2 + a1_2)), .int .i64 (wrap64 (a0_3 + a1_3)), .int .i64 ji23, .int .i64 (wrap64 (a0_5 + a1_5))] 54 (0, 0)) (by (with_reducible repeat (first | refine blk_drewN ?_ _ | refine blk_drew ?_ | refine blk_alloc ?_ _)); exact BK403.out) hb)
                    have n6_ := Aside0.mk (below_step (by repeat (first | (with_reducible first | exact HB.out | apply below_alloc | apply pw_below_drewN | apply below_drew1 | refine below_set ?_ GE388.out | refine below_set ?_ GE389.out | refine below_set ?_ GE402.out | refine below_set ?_ GE403.out) | exact HB.out)) hb)
                    clear HO395
                    clear BK388
                    clear BK389
                    clear BK402
                    clear BK403
                    clear HB
                    have HO395 := n0_
                    have HO414 := n1_
                    have BK388 := n2_
                    have BK389 := n3_
                    have BK402 := n4_
                    have BK403 := n5_
                    have HB := n6_
                    clear n0_ n1_ n2_ n3_ n4_ n5_ n6_
                    clear hb ho60
                    obtain ⟨Ao61, co61, eo61⟩ := Kd.R_slice HO414.out
                    (first | subst eo61 | (injection eo61 with f1_ f2_ f3_; have f4_ := f1_.symm; have f5_ := f3_.symm; clear f1_ f2_ f3_; subst f4_; subst f5_))
                    refine hK.out _ _ ⟨(blk_cell BK388.out 0).trans rfl, (blk_cell BK388.out 1).trans rfl, (blk_cell BK388.out 2).trans rfl, (blk_cell BK388.out 3).trans rfl, (blk_cell BK388.out 4).trans rfl, (blk_cell BK388.out 5).trans rfl, (blk_cell BK402.out 0).trans rfl, (blk_cell BK402.out 1).trans rfl, (blk_cell BK402.out 2).trans rfl, (blk_cell BK402.out 3).trans rfl, (blk_cell BK402.out 4).trans rfl, (blk_cell BK402.out 5).trans rfl, (blk_cell BK403.out 0).trans rfl, (blk_cell BK403.out 1).trans rfl, (blk_cell BK403.out 2).trans rfl, (blk_cell BK403.out 3).trans rfl, (blk_cell BK403.out 4).trans rfl, (blk_cell BK403.out 5).trans rfl, (blk_cell BK389.out 0).trans rfl, (blk_cell BK389.out 1).trans rfl, (blk_cell BK389.out 2).trans rfl, (blk_cell BK389.out 3).trans rfl, (blk_cell BK389.out 4).trans rfl, (blk_cell BK389.out 5).trans rfl⟩ (fun hHeld => ?_)
                    clear hK K
                    refine norm_ (a' := ?_) ?_ ?_
                    rotate_left
                    · show Act.put _ (some 71) _ = _
                      simp only [Act.put, List.setIfInBounds_toArray, List.set_cons_zero, List.set_cons_succ, i64_w, i32_w]
                      rfl
                    refine one_ (i := 20) (N := some 72) #[true, true, true, true, true, true, true, true, true, true, true, true, true, true, true, true, true, true, true, true, true, true, false, false, false, false, false, false, false, false, false, false, false, false, false, false, false, false, false, false, false, false, false, false, false, false, false] rfl rfl (one_of HT_.out (by kernel_rfl)) (by decide) (fun K hK => ?_)
                    refine goes_ Try.func31 (by kernel_rfl) rfl #[.slice Ao61 y412.length co61] (by rfl) rfl rfl (by (try simp only [List.map_toArray, List.map_cons, List.map_nil]); first | done | rfl | (simp only [List.length_drop, List.length_take]; rfl)) ?_
                    with_reducible refine (stats_Total.calls kj5 _ _ y412 t415 t416 t417 t418 t419 t420 _ ?side1 ?side2 A30.out).mono ?_
                    (case side1 => repeat (first | exact (Kd.R_reads' HO414.out).2.2 | (with_reducible refine Kd.C_alloc ?_ _) | (with_reducible refine Kd.C_drewN ?_ _) | (with_reducible refine Kd.C_drew ?_)))
                    (case side2 => exact (Kd.R_reads' HO414.out).2.1)
                    rintro e w62 ⟨rfl, hb⟩
                    refine ⟨_, rfl, ?_⟩
                    have n0_ := Aside0.mk (Kd.R_below (by (with_reducible repeat (first | apply Kd.R_alloc | apply Kd.R_drewN | apply Kd.R_drew)); exact HO395.out) hb)
                    have n1_ := Aside0.mk (Kd.R_below (by (with_reducible repeat (first | apply Kd.R_alloc | apply Kd.R_drewN | apply Kd.R_drew)); exact HO414.out) hb)
                    have n2_ := Aside0.mk (blk_below (g := gb388) (o := .cells #[.int .i64 a0_0, .int .i64 a0_1, .int .i64 a0_2, .int .i64 a0_3, .int .i64 a0_4, .int .i64 a0_5] 54 (0, 0)) (by (with_reducible repeat (first | refine blk_drewN ?_ _ | refine blk_drew ?_ | refine blk_alloc ?_ _)); exact BK388.out) hb)
                    have n3_ := Aside0.mk (blk_below (g := gb389) (o := .cells #[.int .i64 a1_0, .int .i64 a1_1, .int .i64 a1_2, .int .i64 a1_3, .int .i64 a1_4, .int .i64 a1_5] 54 (0, 0)) (by (with_reducible repeat (first | refine blk_drewN ?_ _ | refine blk_drew ?_ | refine blk_alloc ?_ _)); exact BK389.out) hb)
                    have n4_ := Aside0.mk (blk_below (g := gb402) (o := .cells #[.int .i64 t396, .int .i64 t397, .int .i64 t398, .int .i64 t399, .int .i64 t400, .int .i64 t401] 54 (0, 0)) (by (with_reducible repeat (first | refine blk_drewN ?_ _ | refine blk_drew ?_ | refine blk_alloc ?_ _)); exact BK402.out) hb)
                    have n5_ := Aside0.mk (blk_below (g := gb403) (o := .cells #[.int .i64 (wrap64 (a0_0 + a1_0)), .int .i64 (wrap64 (a0_1 + a1_1)), .int .i64 (wrap64 (a0_2 + a1_2)), .int .i64 (wrap64 (a0_3 + a1_3)), .int .i64 ji23, .int .i64 (wrap64 (a0_5 + a1_5))] 54 (0, 0)) (by (with_reducible repeat (first | refine blk_drewN ?_ _ | refine blk_drew ?_ | refine blk_alloc ?_ _)); exact BK403.out) hb)
                    have n6_ := Aside0.mk (below_step (by repeat (first | (with_reducible first | exact HB.out | apply below_alloc | apply pw_below_drewN | apply below_drew1 | refine below_set ?_ GE388.out | refine below_set ?_ GE389.out | refine below_set ?_ GE402.out | refine below_set ?_ GE403.out) | exact HB.out)) hb)
                    clear HO395
                    clear HO414
                    clear BK388
                    clear BK389
                    clear BK402
                    clear BK403
                    clear HB
                    have HO395 := n0_
                    have HO414 := n1_
                    have BK388 := n2_
                    have BK389 := n3_
                    have BK402 := n4_
                    have BK403 := n5_
                    have HB := n6_
                    clear n0_ n1_ n2_ n3_ n4_ n5_ n6_
                    (try clear hb)
                    (try clear hb2)
                    (try clear hk)
                    (try clear hi)
                    refine hK.out _ _ ⟨(blk_cell BK388.out 0).trans rfl, (blk_cell BK388.out 1).trans rfl, (blk_cell BK388.out 2).trans rfl, (blk_cell BK388.out 3).trans rfl, (blk_cell BK388.out 4).trans rfl, (blk_cell BK388.out 5).trans rfl, (blk_cell BK402.out 0).trans rfl, (blk_cell BK402.out 1).trans rfl, (blk_cell BK402.out 2).trans rfl, (blk_cell BK402.out 3).trans rfl, (blk_cell BK402.out 4).trans rfl, (blk_cell BK402.out 5).trans rfl, (blk_cell BK403.out 0).trans rfl, (blk_cell BK403.out 1).trans rfl, (blk_cell BK403.out 2).trans rfl, (blk_cell BK403.out 3).trans rfl, (blk_cell BK403.out 4).trans rfl, (blk_cell BK403.out 5).trans rfl, (blk_cell BK389.out 0).trans rfl, (blk_cell BK389.out 1).trans rfl, (blk_cell BK389.out 2).trans rfl, (blk_cell BK389.out 3).trans rfl, (blk_cell BK389.out 4).trans rfl, (blk_cell BK389.out 5).trans rfl⟩ (fun hHeld => ?_)
                    clear hK K
                    refine norm_ (a' := ?_) ?_ ?_
                    rotate_left
                    · show Act.put _ (some 72) _ = _
                      simp only [Act.put, List.setIfInBounds_toArray, List.set_cons_zero, List.set_cons_succ, i64_w, i32_w]
                      rfl
                    refine pure_ (i := 22) (N := some 74) (v := ?_) (a' := ?_) #[true, true, true, true, true, true, true, true, true, true, true, true, true, true, true, true, true, true, true, true, true, true, true, false, false, false, false, false, false, false, false, false, false, false, false, false, false, false, false, false, false, false, false, false, false, false, false] rfl rfl (any_of HT_.out (by kernel_rfl)) (fun _ _ _ h => h) (Or.inl ⟨by rfl, ?_⟩) ?_ ?_
                    rotate_left
                    · intro w'
                      go_simp
                      with_reducible rfl
                    rotate_left
                    · simp only [Act.put, List.setIfInBounds_toArray, List.set_cons_zero, List.set_cons_succ, i64_w, i32_w]
                      rfl
                    refine pure_ (i := 23) (N := some 75) (v := ?_) (a' := ?_) #[true, true, true, true, true, true, true, true, true, true, true, true, true, true, true, true, true, true, true, true, true, true, true, true, false, false, false, false, false, false, false, false, false, false, false, false, false, false, false, false, false, false, false, false, false, false, false] rfl rfl (any_of HT_.out (by kernel_rfl)) (fun _ _ _ h => h) (Or.inl ⟨by rfl, ?_⟩) ?_ ?_
                    rotate_left
                    · intro w'
                      go_simp
                      with_reducible rfl
                    rotate_left
                    · simp only [Act.put, List.setIfInBounds_toArray, List.set_cons_zero, List.set_cons_succ, i64_w, i32_w]
                      rfl
                    refine pure_ (i := 24) (N := some 76) (v := ?_) (a' := ?_) #[true, true, true, true, true, true, true, true, true, true, true, true, true, true, true, true, true, true, true, true, true, true, true, true, true, false, false, false, false, false, false, false, false, false, false, false, false, false, false, false, false, false, false, false, false, false, false] rfl rfl (any_of HT_.out (by kernel_rfl)) (fun _ _ _ h => h) (Or.inl ⟨by rfl, ?_⟩) ?_ ?_
                    rotate_left
                    · intro w'
                      go_simp
                      with_reducible rfl
                    rotate_left
                    · simp only [Act.put, List.setIfInBounds_toArray, List.set_cons_zero, List.set_cons_succ, i64_w, i32_w]
                      rfl
                    refine take_ (i := 25) (N := some 77) (v := ?_) (a' := ?_) #[true, true, true, true, true, true, true, true, true, true, true, true, true, true, true, true, true, true, true, true, true, true, true, true, true, true, false, false, false, false, false, false, false, false, false, false, false, false, false, false, false, false, false, false, false, false, false] rfl rfl (take_ofW HT_.out HW_.out (by kernel_rfl)) (fun _ _ _ h => h) (Or.inl ⟨by rfl, ?_⟩) hHeld ?_ ?_
                    rotate_left
                    · rintro w' ⟨s0, s1, s2, s3, s4, s5, s6, s7, s8, s9, s10, s11, s12, s13, s14, s15, s16, s17, s18, s19, s20, s21, s22, s23⟩
                      go_simp
                      with_reducible rfl
                    rotate_left
                    · simp only [Act.put, List.setIfInBounds_toArray, List.set_cons_zero, List.set_cons_succ, i64_w, i32_w]
                      rfl
                    refine take_ (i := 26) (N := some 78) (v := ?_) (a' := ?_) #[true, true, true, true, true, true, true, true, true, true, true, true, true, true, true, true, true, true, true, true, true, true, true, true, true, true, true, false, false, false, false, false, false, false, false, false, false, false, false, false, false, false, false, false, false, false, false] rfl rfl (take_ofW HT_.out HW_.out (by kernel_rfl)) (fun _ _ _ h => h) (Or.inl ⟨by rfl, ?_⟩) hHeld ?_ ?_
                    rotate_left
                    · rintro w' ⟨s0, s1, s2, s3, s4, s5, s6, s7, s8, s9, s10, s11, s12, s13, s14, s15, s16, s17, s18, s19, s20, s21, s22, s23⟩
                      go_simp
                      with_reducible rfl
                    rotate_left
                    · simp only [Act.put, List.setIfInBounds_toArray, List.set_cons_zero, List.set_cons_succ, i64_w, i32_w]
                      rfl
                    refine take_ (i := 29) (N := some 81) (v := ?_) (a' := ?_) #[true, true, true, true, true, true, true, true, true, true, true, true, true, true, true, true, true, true, true, true, true, true, true, true, true, true, true, false, false, true, false, false, false, false, false, false, false, false, false, false, false, false, false, false, false, false, false] rfl rfl (take_ofW HT_.out HW_.out (by kernel_rfl)) (fun _ _ _ h => h) (Or.inl ⟨by rfl, ?_⟩) hHeld ?_ ?_
                    rotate_left
                    · rintro w' ⟨s0, s1, s2, s3, s4, s5, s6, s7, s8, s9, s10, s11, s12, s13, s14, s15, s16, s17, s18, s19, s20, s21, s22, s23⟩
                      go_simp
                      with_reducible rfl
                    rotate_left
                    · simp only [Act.put, List.setIfInBounds_toArray, List.set_cons_zero, List.set_cons_succ, i64_w, i32_w]
                      rfl
                    refine one_ (i := 27) (N := some 79) #[true, true, true, true, true, true, true, true, true, true, true, true, true, true, true, true, true, true, true, true, true, true, true, true, true, true, true, true, false, true, false, false, false, false, false, false, false, false, false, false, false, false, false, false, false, false, false] rfl rfl (one_of HT_.out (by kernel_rfl)) (by decide) (fun K hK => ?_)
                    refine Kd.R_lit_step k54 _ 54 ?hg (N := 79) ?hd (xs := ([(⟨a1_0, a1_1, a1_2, a1_3, a1_4, a1_5⟩ : S54), (⟨a0_0, a0_1, a0_2, a0_3, a0_4, a0_5⟩ : S54)] : List (S54))) (inner := [.int .i64 a1_0, .int .i64 a1_1, .int .i64 a1_2, .int .i64 a1_3, .int .i64 a1_4, .int .i64 a1_5, .int .i64 a0_0, .int .i64 a0_1, .int .i64 a0_2, .int .i64 a0_3, .int .i64 a0_4, .int .i64 a0_5]) (ok := fun _ => True) (okp := fun _ => True) ?hr ?hp (fun _ hk => hk) trivial (Below.refl _ _) (Nat.le_refl _) (by simp) ?_; (case hd => rfl); (case hg => rfl); (case hr => first | (go_simp; done) | (go_simp; rfl)); (case hp => exact (Reps.c6 (show Kd.M k54 _ _ _ (⟨a1_0, a1_1, a1_2, a1_3, a1_4, a1_5⟩ : S54) [.int .i64 a1_0, .int .i64 a1_1, .int .i64 a1_2, .int .i64 a1_3, .int .i64 a1_4, .int .i64 a1_5] from (k54_mkM _ _ _ (⟨a1_0, a1_1, a1_2, a1_3, a1_4, a1_5⟩ : S54) )) (Reps.c6 (show Kd.M k54 _ _ _ (⟨a0_0, a0_1, a0_2, a0_3, a0_4, a0_5⟩ : S54) [.int .i64 a0_0, .int .i64 a0_1, .int .i64 a0_2, .int .i64 a0_3, .int .i64 a0_4, .int .i64 a0_5] from (k54_mkM _ _ _ (⟨a0_0, a0_1, a0_2, a0_3, a0_4, a0_5⟩ : S54) )) (Reps.none _ _))))
                    intro v422 w63 ho64 hb hg_ hnew_
                    clear hg_ hnew_
                    (first | rw [← Ny421.out] at ho64 | (simp only [Int.reduceToNat] at ho64; rw [← Ny421.out] at ho64))
                    have n0_ := Aside0.mk (Kd.R_elder' (by (with_reducible repeat (first | apply Kd.R_alloc | apply Kd.R_drewN | apply Kd.R_drew)); exact HO395.out) (Kd.R_base ho64) hb)
                    have n1_ := Aside0.mk (Kd.R_elder' (by (with_reducible repeat (first | apply Kd.R_alloc | apply Kd.R_drewN | apply Kd.R_drew)); exact HO414.out) (Kd.R_base ho64) hb)
                    have n2_ := Aside0.mk (Kd.R_lower (Kd.R_newB (Kd.R_newB (Kd.R_newB (Kd.R_newB (Kd.R_new' (Kd.R_new' ho64 (Kd.R_lt (by (with_reducible repeat (first | apply Kd.R_alloc | apply Kd.R_drewN | apply Kd.R_drew)); exact HO395.out))) (Kd.R_lt (by (with_reducible repeat (first | apply Kd.R_alloc | apply Kd.R_drewN | apply Kd.R_drew)); exact HO414.out))) (g := gb388) (o := .cells #[.int .i64 a0_0, .int .i64 a0_1, .int .i64 a0_2, .int .i64 a0_3, .int .i64 a0_4, .int .i64 a0_5] 54 (0, 0)) (by (with_reducible repeat (first | refine blk_drewN ?_ _ | refine blk_drew ?_ | refine blk_alloc ?_ _)); exact BK388.out)) (g := gb389) (o := .cells #[.int .i64 a1_0, .int .i64 a1_1, .int .i64 a1_2, .int .i64 a1_3, .int .i64 a1_4, .int .i64 a1_5] 54 (0, 0)) (by (with_reducible repeat (first | refine blk_drewN ?_ _ | refine blk_drew ?_ | refine blk_alloc ?_ _)); exact BK389.out)) (g := gb402) (o := .cells #[.int .i64 t396, .int .i64 t397, .int .i64 t398, .int .i64 t399, .int .i64 t400, .int .i64 t401] 54 (0, 0)) (by (with_reducible repeat (first | refine blk_drewN ?_ _ | refine blk_drew ?_ | refine blk_alloc ?_ _)); exact BK402.out)) (g := gb403) (o := .cells #[.int .i64 (wrap64 (a0_0 + a1_0)), .int .i64 (wrap64 (a0_1 + a1_1)), .int .i64 (wrap64 (a0_2 + a1_2)), .int .i64 (wrap64 (a0_3 + a1_3)), .int .i64 ji23, .int .i64 (wrap64 (a0_5 + a1_5))] 54 (0, 0)) (by (with_reducible repeat (first | refine blk_drewN ?_ _ | refine blk_drew ?_ | refine blk_alloc ?_ _)); exact BK403.out)) (below_size (by repeat (first | (with_reducible first | exact HB.out | apply below_alloc | apply pw_below_drewN | apply below_drew1 | refine below_set ?_ GE388.out | refine below_set ?_ GE389.out | refine below_set ?_ GE402.out | refine below_set ?_ GE403.out) | exact HB.out))))
                    have n3_ := Aside0.mk (blk_below (g := gb388) (o := .cells #[.int .i64 a0_0, .int .i64 a0_1, .int .i64 a0_2, .int .i64 a0_3, .int .i64 a0_4, .int .i64 a0_5] 54 (0, 0)) (by (with_reducible repeat (first | refine blk_drewN ?_ _ | refine blk_drew ?_ | refine blk_alloc ?_ _)); exact BK388.out) hb)
                    have n4_ := Aside0.mk (blk_below (g := gb389) (o := .cells #[.int .i64 a1_0, .int .i64 a1_1, .int .i64 a1_2, .int .i64 a1_3, .int .i64 a1_4, .int .i64 a1_5] 54 (0, 0)) (by (with_reducible repeat (first | refine blk_drewN ?_ _ | refine blk_drew ?_ | refine blk_alloc ?_ _)); exact BK389.out) hb)
                    have n5_ := Aside0.mk (blk_below (g := gb402) (o := .cells #[.int .i64 t396, .int .i64 t397, .int .i64 t398, .int .i64 t399, .int .i64 t400, .int .i64 t401] 54 (0, 0)) (by (with_reducible repeat (first | refine blk_drewN ?_ _ | refine blk_drew ?_ | refine blk_alloc ?_ _)); exact BK402.out) hb)
                    have n6_ := Aside0.mk (blk_below (g := gb403) (o := .cells #[.int .i64 (wrap64 (a0_0 + a1_0)), .int .i64 (wrap64 (a0_1 + a1_1)), .int .i64 (wrap64 (a0_2 + a1_2)), .int .i64 (wrap64 (a0_3 + a1_3)), .int .i64 ji23, .int .i64 (wrap64 (a0_5 + a1_5))] 54 (0, 0)) (by (with_reducible repeat (first | refine blk_drewN ?_ _ | refine blk_drew ?_ | refine blk_alloc ?_ _)); exact BK403.out) hb)
                    have n7_ := Aside0.mk (below_step (by repeat (first | (with_reducible first | exact HB.out | apply below_alloc | apply pw_below_drewN | apply below_drew1 | refine below_set ?_ GE388.out | refine below_set ?_ GE389.out | refine below_set ?_ GE402.out | refine below_set ?_ GE403.out) | exact HB.out)) hb)
                    clear HO395
                    clear HO414
                    clear BK388
                    clear BK389
                    clear BK402
                    clear BK403
                    clear HB
                    have HO395 := n0_
                    have HO414 := n1_
                    have HO423 := n2_
                    have BK388 := n3_
                    have BK389 := n4_
                    have BK402 := n5_
                    have BK403 := n6_
                    have HB := n7_
                    clear n0_ n1_ n2_ n3_ n4_ n5_ n6_ n7_
                    clear hb ho64
                    obtain ⟨Ao65, co65, eo65⟩ := Kd.R_slice HO423.out
                    (first | subst eo65 | (injection eo65 with f1_ f2_ f3_; have f4_ := f1_.symm; have f5_ := f3_.symm; clear f1_ f2_ f3_; subst f4_; subst f5_))
                    refine hK.out _ _ ⟨(blk_cell BK388.out 0).trans rfl, (blk_cell BK388.out 1).trans rfl, (blk_cell BK388.out 2).trans rfl, (blk_cell BK388.out 3).trans rfl, (blk_cell BK388.out 4).trans rfl, (blk_cell BK388.out 5).trans rfl, (blk_cell BK402.out 0).trans rfl, (blk_cell BK402.out 1).trans rfl, (blk_cell BK402.out 2).trans rfl, (blk_cell BK402.out 3).trans rfl, (blk_cell BK402.out 4).trans rfl, (blk_cell BK402.out 5).trans rfl, (blk_cell BK403.out 0).trans rfl, (blk_cell BK403.out 1).trans rfl, (blk_cell BK403.out 2).trans rfl, (blk_cell BK403.out 3).trans rfl, (blk_cell BK403.out 4).trans rfl, (blk_cell BK403.out 5).trans rfl, (blk_cell BK389.out 0).trans rfl, (blk_cell BK389.out 1).trans rfl, (blk_cell BK389.out 2).trans rfl, (blk_cell BK389.out 3).trans rfl, (blk_cell BK389.out 4).trans rfl, (blk_cell BK389.out 5).trans rfl⟩ (fun hHeld => ?_)
                    clear hK K
                    refine norm_ (a' := ?_) ?_ ?_
                    rotate_left
                    · show Act.put _ (some 79) _ = _
                      simp only [Act.put, List.setIfInBounds_toArray, List.set_cons_zero, List.set_cons_succ, i64_w, i32_w]
                      rfl
                    refine one_ (i := 28) (N := some 80) #[true, true, true, true, true, true, true, true, true, true, true, true, true, true, true, true, true, true, true, true, true, true, true, true, true, true, true, true, true, true, false, false, false, false, false, false, false, false, false, false, false, false, false, false, false, false, false] rfl rfl (one_of HT_.out (by kernel_rfl)) (by decide) (fun K hK => ?_)
                    refine goes_ Try.func31 (by kernel_rfl) rfl #[.slice Ao65 y421.length co65] (by rfl) rfl rfl (by (try simp only [List.map_toArray, List.map_cons, List.map_nil]); first | done | rfl | (simp only [List.length_drop, List.length_take]; rfl)) ?_
                    with_reducible refine (stats_Total.calls kj5 _ _ y421 t424 t425 t426 t427 t428 t429 _ ?side1 ?side2 A32.out).mono ?_
                    (case side1 => repeat (first | exact (Kd.R_reads' HO423.out).2.2 | (with_reducible refine Kd.C_alloc ?_ _) | (with_reducible refine Kd.C_drewN ?_ _) | (with_reducible refine Kd.C_drew ?_)))
                    (case side2 => exact (Kd.R_reads' HO423.out).2.1)
                    rintro e w66 ⟨rfl, hb⟩
                    refine ⟨_, rfl, ?_⟩
                    have n0_ := Aside0.mk (Kd.R_below (by (with_reducible repeat (first | apply Kd.R_alloc | apply Kd.R_drewN | apply Kd.R_drew)); exact HO395.out) hb)
                    have n1_ := Aside0.mk (Kd.R_below (by (with_reducible repeat (first | apply Kd.R_alloc | apply Kd.R_drewN | apply Kd.R_drew)); exact HO414.out) hb)
                    have n2_ := Aside0.mk (Kd.R_below (by (with_reducible repeat (first | apply Kd.R_alloc | apply Kd.R_drewN | apply Kd.R_drew)); exact HO423.out) hb)
                    have n3_ := Aside0.mk (blk_below (g := gb388) (o := .cells #[.int .i64 a0_0, .int .i64 a0_1, .int .i64 a0_2, .int .i64 a0_3, .int .i64 a0_4, .int .i64 a0_5] 54 (0, 0)) (by (with_reducible repeat (first | refine blk_drewN ?_ _ | refine blk_drew ?_ | refine blk_alloc ?_ _)); exact BK388.out) hb)
                    have n4_ := Aside0.mk (blk_below (g := gb389) (o := .cells #[.int .i64 a1_0, .int .i64 a1_1, .int .i64 a1_2, .int .i64 a1_3, .int .i64 a1_4, .int .i64 a1_5] 54 (0, 0)) (by (with_reducible repeat (first | refine blk_drewN ?_ _ | refine blk_drew ?_ | refine blk_alloc ?_ _)); exact BK389.out) hb)
                    have n5_ := Aside0.mk (blk_below (g := gb402) (o := .cells #[.int .i64 t396, .int .i64 t397, .int .i64 t398, .int .i64 t399, .int .i64 t400, .int .i64 t401] 54 (0, 0)) (by (with_reducible repeat (first | refine blk_drewN ?_ _ | refine blk_drew ?_ | refine blk_alloc ?_ _)); exact BK402.out) hb)
                    have n6_ := Aside0.mk (blk_below (g := gb403) (o := .cells #[.int .i64 (wrap64 (a0_0 + a1_0)), .int .i64 (wrap64 (a0_1 + a1_1)), .int .i64 (wrap64 (a0_2 + a1_2)), .int .i64 (wrap64 (a0_3 + a1_3)), .int .i64 ji23, .int .i64 (wrap64 (a0_5 + a1_5))] 54 (0, 0)) (by (with_reducible repeat (first | refine blk_drewN ?_ _ | refine blk_drew ?_ | refine blk_alloc ?_ _)); exact BK403.out) hb)
                    have n7_ := Aside0.mk (below_step (by repeat (first | (with_reducible first | exact HB.out | apply below_alloc | apply pw_below_drewN | apply below_drew1 | refine below_set ?_ GE388.out | refine below_set ?_ GE389.out | refine below_set ?_ GE402.out | refine below_set ?_ GE403.out) | exact HB.out)) hb)
                    clear HO395
                    clear HO414
                    clear HO423
                    clear BK388
                    clear BK389
                    clear BK402
                    clear BK403
                    clear HB
                    have HO395 := n0_
                    have HO414 := n1_
                    have HO423 := n2_
                    have BK388 := n3_
                    have BK389 := n4_
                    have BK402 := n5_
                    have BK403 := n6_
                    have HB := n7_
                    clear n0_ n1_ n2_ n3_ n4_ n5_ n6_ n7_
                    (try clear hb)
                    (try clear hb2)
                    (try clear hk)
                    (try clear hi)
                    refine hK.out _ _ ⟨(blk_cell BK388.out 0).trans rfl, (blk_cell BK388.out 1).trans rfl, (blk_cell BK388.out 2).trans rfl, (blk_cell BK388.out 3).trans rfl, (blk_cell BK388.out 4).trans rfl, (blk_cell BK388.out 5).trans rfl, (blk_cell BK402.out 0).trans rfl, (blk_cell BK402.out 1).trans rfl, (blk_cell BK402.out 2).trans rfl, (blk_cell BK402.out 3).trans rfl, (blk_cell BK402.out 4).trans rfl, (blk_cell BK402.out 5).trans rfl, (blk_cell BK403.out 0).trans rfl, (blk_cell BK403.out 1).trans rfl, (blk_cell BK403.out 2).trans rfl, (blk_cell BK403.out 3).trans rfl, (blk_cell BK403.out 4).trans rfl, (blk_cell BK403.out 5).trans rfl, (blk_cell BK389.out 0).trans rfl, (blk_cell BK389.out 1).trans rfl, (blk_cell BK389.out 2).trans rfl, (blk_cell BK389.out 3).trans rfl, (blk_cell BK389.out 4).trans rfl, (blk_cell BK389.out 5).trans rfl⟩ (fun hHeld => ?_)
                    clear hK K
                    refine norm_ (a' := ?_) ?_ ?_
                    rotate_left
                    · show Act.put _ (some 80) _ = _
                      simp only [Act.put, List.setIfInBounds_toArray, List.set_cons_zero, List.set_cons_succ, i64_w, i32_w]
                      rfl
                    refine pure_ (i := 30) (N := some 82) (v := ?_) (a' := ?_) #[true, true, true, true, true, true, true, true, true, true, true, true, true, true, true, true, true, true, true, true, true, true, true, true, true, true, true, true, true, true, true, false, false, false, false, false, false, false, false, false, false, false, false, false, false, false, false] rfl rfl (any_of HT_.out (by kernel_rfl)) (fun _ _ _ h => h) (Or.inl ⟨by rfl, ?_⟩) ?_ ?_
                    rotate_left
                    · intro w'
                      go_simp
                      with_reducible rfl
                    rotate_left
                    · simp only [Act.put, List.setIfInBounds_toArray, List.set_cons_zero, List.set_cons_succ, i64_w, i32_w]
                      rfl
                    refine pure_ (i := 31) (N := some 83) (v := ?_) (a' := ?_) #[true, true, true, true, true, true, true, true, true, true, true, true, true, true, true, true, true, true, true, true, true, true, true, true, true, true, true, true, true, true, true, true, false, false, false, false, false, false, false, false, false, false, false, false, false, false, false] rfl rfl (any_of HT_.out (by kernel_rfl)) (fun _ _ _ h => h) (Or.inl ⟨by rfl, ?_⟩) ?_ ?_
                    rotate_left
                    · intro w'
                      go_simp
                      with_reducible rfl
                    rotate_left
                    · simp only [Act.put, List.setIfInBounds_toArray, List.set_cons_zero, List.set_cons_succ, i64_w, i32_w]
                      rfl
                    refine pure_ (i := 32) (N := some 84) (v := ?_) (a' := ?_) #[true, true, true, true, true, true, true, true, true, true, true, true, true, true, true, true, true, true, true, true, true, true, true, true, true, true, true, true, true, true, true, true, true, false, false, false, false, false, false, false, false, false, false, false, false, false, false] rfl rfl (any_of HT_.out (by kernel_rfl)) (fun _ _ _ h => h) (Or.inl ⟨by rfl, ?_⟩) ?_ ?_
                    rotate_left
                    · intro w'
                      go_simp
                      with_reducible rfl
                    rotate_left
                    · simp only [Act.put, List.setIfInBounds_toArray, List.set_cons_zero, List.set_cons_succ, i64_w, i32_w]
                      rfl
                    refine pure_ (i := 35) (N := some 87) (v := ?_) (a' := ?_) #[true, true, true, true, true, true, true, true, true, true, true, true, true, true, true, true, true, true, true, true, true, true, true, true, true, true, true, true, true, true, true, true, true, false, false, true, false, false, false, false, false, false, false, false, false, false, false] rfl rfl (any_of HT_.out (by kernel_rfl)) (fun _ _ _ h => h) (Or.inl ⟨by rfl, ?_⟩) ?_ ?_
                    rotate_left
                    · intro w'
                      go_simp
                      with_reducible rfl
                    rotate_left
                    · simp only [Act.put, List.setIfInBounds_toArray, List.set_cons_zero, List.set_cons_succ, i64_w, i32_w]
                      rfl
                    refine pure_ (i := 37) (N := some 89) (v := ?_) (a' := ?_) #[true, true, true, true, true, true, true, true, true, true, true, true, true, true, true, true, true, true, true, true, true, true, true, true, true, true, true, true, true, true, true, true, true, false, false, true, false, true, false, false, false, false, false, false, false, false, false] rfl rfl (any_of HT_.out (by kernel_rfl)) (fun _ _ _ h => h) (Or.inl ⟨by rfl, ?_⟩) ?_ ?_
                    rotate_left
                    · intro w'
                      go_simp
                      with_reducible rfl
                    rotate_left
                    · simp only [Act.put, List.setIfInBounds_toArray, List.set_cons_zero, List.set_cons_succ, i64_w, i32_w]
                      rfl
                    refine take_ (i := 33) (N := some 85) (v := ?_) (a' := ?_) #[true, true, true, true, true, true, true, true, true, true, true, true, true, true, true, true, true, true, true, true, true, true, true, true, true, true, true, true, true, true, true, true, true, true, false, true, false, true, false, false, false, false, false, false, false, false, false] rfl rfl (take_ofW HT_.out HW_.out (by kernel_rfl)) (fun _ _ _ h => h) (Or.inl ⟨by rfl, ?_⟩) hHeld ?_ ?_
                    rotate_left
                    · rintro w' ⟨s0, s1, s2, s3, s4, s5, s6, s7, s8, s9, s10, s11, s12, s13, s14, s15, s16, s17, s18, s19, s20, s21, s22, s23⟩
                      go_simp
                      with_reducible rfl
                    rotate_left
                    · simp only [Act.put, List.setIfInBounds_toArray, List.set_cons_zero, List.set_cons_succ, i64_w, i32_w]
                      rfl
                    refine take_ (i := 34) (N := some 86) (v := ?_) (a' := ?_) #[true, true, true, true, true, true, true, true, true, true, true, true, true, true, true, true, true, true, true, true, true, true, true, true, true, true, true, true, true, true, true, true, true, true, true, true, false, true, false, false, false, false, false, false, false, false, false] rfl rfl (take_ofW HT_.out HW_.out (by kernel_rfl)) (fun _ _ _ h => h) (Or.inl ⟨by rfl, ?_⟩) hHeld ?_ ?_
                    rotate_left
                    · rintro w' ⟨s0, s1, s2, s3, s4, s5, s6, s7, s8, s9, s10, s11, s12, s13, s14, s15, s16, s17, s18, s19, s20, s21, s22, s23⟩
                      go_simp
                      with_reducible rfl
                    rotate_left
                    · simp only [Act.put, List.setIfInBounds_toArray, List.set_cons_zero, List.set_cons_succ, i64_w, i32_w]
                      rfl
                    refine take_ (i := 36) (N := some 88) (v := ?_) (a' := ?_) #[true, true, true, true, true, true, true, true, true, true, true, true, true, true, true, true, true, true, true, true, true, true, true, true, true, true, true, true, true, true, true, true, true, true, true, true, true, true, false, false, false, false, false, false, false, false, false] rfl rfl (take_ofW HT_.out HW_.out (by kernel_rfl)) (fun _ _ _ h => h) (Or.inl ⟨by rfl, ?_⟩) hHeld ?_ ?_
                    rotate_left
                    · rintro w' ⟨s0, s1, s2, s3, s4, s5, s6, s7, s8, s9, s10, s11, s12, s13, s14, s15, s16, s17, s18, s19, s20, s21, s22, s23⟩
                      go_simp
                      with_reducible rfl
                    rotate_left
                    · simp only [Act.put, List.setIfInBounds_toArray, List.set_cons_zero, List.set_cons_succ, i64_w, i32_w]
                      rfl
                    refine take_ (i := 38) (N := some 90) (v := ?_) (a' := ?_) #[true, true, true, true, true, true, true, true, true, true, true, true, true, true, true, true, true, true, true, true, true, true, true, true, true, true, true, true, true, true, true, true, true, true, true, true, true, true, true, false, false, false, false, false, false, false, false] rfl rfl (take_ofW HT_.out HW_.out (by kernel_rfl)) (fun _ _ _ h => h) (Or.inl ⟨by rfl, ?_⟩) hHeld ?_ ?_
                    rotate_left
                    · rintro w' ⟨s0, s1, s2, s3, s4, s5, s6, s7, s8, s9, s10, s11, s12, s13, s14, s15, s16, s17, s18, s19, s20, s21, s22, s23⟩
                      go_simp
                      with_reducible rfl
                    rotate_left
                    · simp only [Act.put, List.setIfInBounds_toArray, List.set_cons_zero, List.set_cons_succ, i64_w, i32_w]
                      rfl
                    refine pure_ (i := 39) (N := some 91) (v := ?_) (a' := ?_) #[true, true, true, true, true, true, true, true, true, true, true, true, true, true, true, true, true, true, true, true, true, true, true, true, true, true, true, true, true, true, true, true, true, true, true, true, true, true, true, true, false, false, false, false, false, false, false] rfl rfl (any_of HT_.out (by kernel_rfl)) (fun _ _ _ h => h) (Or.inl ⟨by rfl, ?_⟩) ?_ ?_
                    rotate_left
                    · intro w'
                      go_simp
                      with_reducible rfl
                    rotate_left
                    · simp only [Act.put, List.setIfInBounds_toArray, List.set_cons_zero, List.set_cons_succ, i64_w, i32_w]
                      rfl
                    refine pure_ (i := 40) (N := some 92) (v := ?_) (a' := ?_) #[true, true, true, true, true, true, true, true, true, true, true, true, true, true, true, true, true, true, true, true, true, true, true, true, true, true, true, true, true, true, true, true, true, true, true, true, true, true, true, true, true, false, false, false, false, false, false] rfl rfl (any_of HT_.out (by kernel_rfl)) (fun _ _ _ h => h) (Or.inl ⟨by rfl, ?_⟩) ?_ ?_
                    rotate_left
                    · intro w'
                      go_simp
                      with_reducible rfl
                    rotate_left
                    · simp only [Act.put, List.setIfInBounds_toArray, List.set_cons_zero, List.set_cons_succ, i64_w, i32_w]
                      rfl
                    refine take_ (i := 43) (N := some 95) (v := ?_) (a' := ?_) #[true, true, true, true, true, true, true, true, true, true, true, true, true, true, true, true, true, true, true, true, true, true, true, true, true, true, true, true, true, true, true, true, true, true, true, true, true, true, true, true, true, false, false, true, false, false, false] rfl rfl (take_ofW HT_.out HW_.out (by kernel_rfl)) (fun _ _ _ h => h) (Or.inl ⟨by rfl, ?_⟩) hHeld ?_ ?_
                    rotate_left
                    · rintro w' ⟨s0, s1, s2, s3, s4, s5, s6, s7, s8, s9, s10, s11, s12, s13, s14, s15, s16, s17, s18, s19, s20, s21, s22, s23⟩
                      go_simp
                      with_reducible rfl
                    rotate_left
                    · simp only [Act.put, List.setIfInBounds_toArray, List.set_cons_zero, List.set_cons_succ, i64_w, i32_w]
                      rfl
                    refine one_ (i := 41) (N := some 93) #[true, true, true, true, true, true, true, true, true, true, true, true, true, true, true, true, true, true, true, true, true, true, true, true, true, true, true, true, true, true, true, true, true, true, true, true, true, true, true, true, true, true, false, true, false, false, false] rfl rfl (one_of HT_.out (by kernel_rfl)) (by decide) (fun K hK => ?_)
                    refine Kd.R_lit_step k54 _ 54 ?hg (N := 93) ?hd (xs := ([(⟨a0_0, a0_1, a0_2, a0_3, a0_4, a0_5⟩ : S54), (⟨a1_0, a1_1, a1_2, a1_3, a1_4, a1_5⟩ : S54), (⟨0, 0, 0, 0, ji23, 0⟩ : S54)] : List (S54))) (inner := [.int .i64 a0_0, .int .i64 a0_1, .int .i64 a0_2, .int .i64 a0_3, .int .i64 a0_4, .int .i64 a0_5, .int .i64 a1_0, .int .i64 a1_1, .int .i64 a1_2, .int .i64 a1_3, .int .i64 a1_4, .int .i64 a1_5, .int .i64 0, .int .i64 0, .int .i64 0, .int .i64 0, .int .i64 ji23, .int .i64 0]) (ok := fun _ => True) (okp := fun _ => True) ?hr ?hp (fun _ hk => hk) trivial (Below.refl _ _) (Nat.le_refl _) (by simp) ?_; (case hd => rfl); (case hg => rfl); (case hr => first | (go_simp; done) | (go_simp; rfl)); (case hp => exact (Reps.c6 (show Kd.M k54 _ _ _ (⟨a0_0, a0_1, a0_2, a0_3, a0_4, a0_5⟩ : S54) [.int .i64 a0_0, .int .i64 a0_1, .int .i64 a0_2, .int .i64 a0_3, .int .i64 a0_4, .int .i64 a0_5] from (k54_mkM _ _ _ (⟨a0_0, a0_1, a0_2, a0_3, a0_4, a0_5⟩ : S54) )) (Reps.c6 (show Kd.M k54 _ _ _ (⟨a1_0, a1_1, a1_2, a1_3, a1_4, a1_5⟩ : S54) [.int .i64 a1_0, .int .i64 a1_1, .int .i64 a1_2, .int .i64 a1_3, .int .i64 a1_4, .int .i64 a1_5] from (k54_mkM _ _ _ (⟨a1_0, a1_1, a1_2, a1_3, a1_4, a1_5⟩ : S54) )) (Reps.c6 (show Kd.M k54 _ _ _ (⟨0, 0, 0, 0, ji23, 0⟩ : S54) [.int .i64 0, .int .i64 0, .int .i64 0, .int .i64 0, .int .i64 ji23, .int .i64 0] from (k54_mkM _ _ _ (⟨0, 0, 0, 0, ji23, 0⟩ : S54) )) (Reps.none _ _)))))
                    intro v431 w67 ho68 hb hg_ hnew_
                    clear hg_ hnew_
                    (first | rw [← Ny430.out] at ho68 | (simp only [Int.reduceToNat] at ho68; rw [← Ny430.out] at ho68))
                    have n0_ := Aside0.mk (Kd.R_elder' (by (with_reducible repeat (first | apply Kd.R_alloc | apply Kd.R_drewN | apply Kd.R_drew)); exact HO395.out) (Kd.R_base ho68) hb)
                    have n1_ := Aside0.mk (Kd.R_elder' (by (with_reducible repeat (first | apply Kd.R_alloc | apply Kd.R_drewN | apply Kd.R_drew)); exact HO414.out) (Kd.R_base ho68) hb)
                    have n2_ := Aside0.mk (Kd.R_elder' (by (with_reducible repeat (first | apply Kd.R_alloc | apply Kd.R_drewN | apply Kd.R_drew)); exact HO423.out) (Kd.R_base ho68) hb)
                    have n3_ := Aside0.mk (Kd.R_lower (Kd.R_newB (Kd.R_newB (Kd.R_newB (Kd.R_newB (Kd.R_new' (Kd.R_new' (Kd.R_new' ho68 (Kd.R_lt (by (with_reducible repeat (first | apply Kd.R_alloc | apply Kd.R_drewN | apply Kd.R_drew)); exact HO395.out))) (Kd.R_lt (by (with_reducible repeat (first | apply Kd.R_alloc | apply Kd.R_drewN | apply Kd.R_drew)); exact HO414.out))) (Kd.R_lt (by (with_reducible repeat (first | apply Kd.R_alloc | apply Kd.R_drewN | apply Kd.R_drew)); exact HO423.out))) (g := gb388) (o := .cells #[.int .i64 a0_0, .int .i64 a0_1, .int .i64 a0_2, .int .i64 a0_3, .int .i64 a0_4, .int .i64 a0_5] 54 (0, 0)) (by (with_reducible repeat (first | refine blk_drewN ?_ _ | refine blk_drew ?_ | refine blk_alloc ?_ _)); exact BK388.out)) (g := gb389) (o := .cells #[.int .i64 a1_0, .int .i64 a1_1, .int .i64 a1_2, .int .i64 a1_3, .int .i64 a1_4, .int .i64 a1_5] 54 (0, 0)) (by (with_reducible repeat (first | refine blk_drewN ?_ _ | refine blk_drew ?_ | refine blk_alloc ?_ _)); exact BK389.out)) (g := gb402) (o := .cells #[.int .i64 t396, .int .i64 t397, .int .i64 t398, .int .i64 t399, .int .i64 t400, .int .i64 t401] 54 (0, 0)) (by (with_reducible repeat (first | refine blk_drewN ?_ _ | refine blk_drew ?_ | refine blk_alloc ?_ _)); exact BK402.out)) (g := gb403) (o := .cells #[.int .i64 (wrap64 (a0_0 + a1_0)), .int .i64 (wrap64 (a0_1 + a1_1)), .int .i64 (wrap64 (a0_2 + a1_2)), .int .i64 (wrap64 (a0_3 + a1_3)), .int .i64 ji23, .int .i64 (wrap64 (a0_5 + a1_5))] 54 (0, 0)) (by (with_reducible repeat (first | refine blk_drewN ?_ _ | refine blk_drew ?_ | refine blk_alloc ?_ _)); exact BK403.out)) (below_size (by repeat (first | (with_reducible first | exact HB.out | apply below_alloc | apply pw_below_drewN | apply below_drew1 | refine below_set ?_ GE388.out | refine below_set ?_ GE389.out | refine below_set ?_ GE402.out | refine below_set ?_ GE403.out) | exact HB.out))))
                    have n4_ := Aside0.mk (blk_below (g := gb388) (o := .cells #[.int .i64 a0_0, .int .i64 a0_1, .int .i64 a0_2, .int .i64 a0_3, .int .i64 a0_4, .int .i64 a0_5] 54 (0, 0)) (by (with_reducible repeat (first | refine blk_drewN ?_ _ | refine blk_drew ?_ | refine blk_alloc ?_ _)); exact BK388.out) hb)
                    have n5_ := Aside0.mk (blk_below (g := gb389) (o := .cells #[.int .i64 a1_0, .int .i64 a1_1, .int .i64 a1_2, .int .i64 a1_3, .int .i64 a1_4, .int .i64 a1_5] 54 (0, 0)) (by (with_reducible repeat (first | refine blk_drewN ?_ _ | refine blk_drew ?_ | refine blk_alloc ?_ _)); exact BK389.out) hb)
                    have n6_ := Aside0.mk (blk_below (g := gb402) (o := .cells #[.int .i64 t396, .int .i64 t397, .int .i64 t398, .int .i64 t399, .int .i64 t400, .int .i64 t401] 54 (0, 0)) (by (with_reducible repeat (first | refine blk_drewN ?_ _ | refine blk_drew ?_ | refine blk_alloc ?_ _)); exact BK402.out) hb)
                    have n7_ := Aside0.mk (blk_below (g := gb403) (o := .cells #[.int .i64 (wrap64 (a0_0 + a1_0)), .int .i64 (wrap64 (a0_1 + a1_1)), .int .i64 (wrap64 (a0_2 + a1_2)), .int .i64 (wrap64 (a0_3 + a1_3)), .int .i64 ji23, .int .i64 (wrap64 (a0_5 + a1_5))] 54 (0, 0)) (by (with_reducible repeat (first | refine blk_drewN ?_ _ | refine blk_drew ?_ | refine blk_alloc ?_ _)); exact BK403.out) hb)
                    have n8_ := Aside0.mk (below_step (by repeat (first | (with_reducible first | exact HB.out | apply below_alloc | apply pw_below_drewN | apply below_drew1 | refine below_set ?_ GE388.out | refine below_set ?_ GE389.out | refine below_set ?_ GE402.out | refine below_set ?_ GE403.out) | exact HB.out)) hb)
                    clear HO395
                    clear HO414
                    clear HO423
                    clear BK388
                    clear BK389
                    clear BK402
                    clear BK403
                    clear HB
                    have HO395 := n0_
                    have HO414 := n1_
                    have HO423 := n2_
                    have HO432 := n3_
                    have BK388 := n4_
                    have BK389 := n5_
                    have BK402 := n6_
                    have BK403 := n7_
                    have HB := n8_
                    clear n0_ n1_ n2_ n3_ n4_ n5_ n6_ n7_ n8_
                    clear hb ho68
                    obtain ⟨Ao69, co69, eo69⟩ := Kd.R_slice HO432.out
                    (first | subst eo69 | (injection eo69 with f1_ f2_ f3_; have f4_ := f1_.symm; have f5_ := f3_.symm; clear f1_ f2_ f3_; subst f4_; subst f5_))
                    refine hK.out _ _ ⟨(blk_cell BK388.out 0).trans rfl, (blk_cell BK388.out 1).trans rfl, (blk_cell BK388.out 2).trans rfl, (blk_cell BK388.out 3).trans rfl, (blk_cell BK388.out 4).trans rfl, (blk_cell BK388.out 5).trans rfl, (blk_cell BK402.out 0).trans rfl, (blk_cell BK402.out 1).trans rfl, (blk_cell BK402.out 2).trans rfl, (blk_cell BK402.out 3).trans rfl, (blk_cell BK402.out 4).trans rfl, (blk_cell BK402.out 5).trans rfl, (blk_cell BK403.out 0).trans rfl, (blk_cell BK403.out 1).trans rfl, (blk_cell BK403.out 2).trans rfl, (blk_cell BK403.out 3).trans rfl, (blk_cell BK403.out 4).trans rfl, (blk_cell BK403.out 5).trans rfl, (blk_cell BK389.out 0).trans rfl, (blk_cell BK389.out 1).trans rfl, (blk_cell BK389.out 2).trans rfl, (blk_cell BK389.out 3).trans rfl, (blk_cell BK389.out 4).trans rfl, (blk_cell BK389.out 5).trans rfl⟩ (fun hHeld => ?_)
                    clear hK K
                    refine norm_ (a' := ?_) ?_ ?_
                    rotate_left
                    · show Act.put _ (some 93) _ = _
                      simp only [Act.put, List.setIfInBounds_toArray, List.set_cons_zero, List.set_cons_succ, i64_w, i32_w]
                      rfl
                    refine one_ (i := 42) (N := some 94) #[true, true, true, true, true, true, true, true, true, true, true, true, true, true, true, true, true, true, true, true, true, true, true, true, true, true, true, true, true, true, true, true, true, true, true, true, true, true, true, true, true, true, true, true, false, false, false] rfl rfl (one_of HT_.out (by kernel_rfl)) (by decide) (fun K hK => ?_)
                    refine goes_ Try.func31 (by kernel_rfl) rfl #[.slice Ao69 y430.length co69] (by rfl) rfl rfl (by (try simp only [List.map_toArray, List.map_cons, List.map_nil]); first | done | rfl | (simp only [List.length_drop, List.length_take]; rfl)) ?_
                    with_reducible refine (stats_Total.calls kj5 _ _ y430 t433 t434 t435 t436 t437 t438 _ ?side1 ?side2 A35.out).mono ?_
                    (case side1 => repeat (first | exact (Kd.R_reads' HO432.out).2.2 | (with_reducible refine Kd.C_alloc ?_ _) | (with_reducible refine Kd.C_drewN ?_ _) | (with_reducible refine Kd.C_drew ?_)))
                    (case side2 => exact (Kd.R_reads' HO432.out).2.1)
                    rintro e w70 ⟨rfl, hb⟩
                    refine ⟨_, rfl, ?_⟩
                    have n0_ := Aside0.mk (Kd.R_below (by (with_reducible repeat (first | apply Kd.R_alloc | apply Kd.R_drewN | apply Kd.R_drew)); exact HO395.out) hb)
                    have n1_ := Aside0.mk (Kd.R_below (by (with_reducible repeat (first | apply Kd.R_alloc | apply Kd.R_drewN | apply Kd.R_drew)); exact HO414.out) hb)
                    have n2_ := Aside0.mk (Kd.R_below (by (with_reducible repeat (first | apply Kd.R_alloc | apply Kd.R_drewN | apply Kd.R_drew)); exact HO423.out) hb)
                    have n3_ := Aside0.mk (Kd.R_below (by (with_reducible repeat (first | apply Kd.R_alloc | apply Kd.R_drewN | apply Kd.R_drew)); exact HO432.out) hb)
                    have n4_ := Aside0.mk (blk_below (g := gb388) (o := .cells #[.int .i64 a0_0, .int .i64 a0_1, .int .i64 a0_2, .int .i64 a0_3, .int .i64 a0_4, .int .i64 a0_5] 54 (0, 0)) (by (with_reducible repeat (first | refine blk_drewN ?_ _ | refine blk_drew ?_ | refine blk_alloc ?_ _)); exact BK388.out) hb)
                    have n5_ := Aside0.mk (blk_below (g := gb389) (o := .cells #[.int .i64 a1_0, .int .i64 a1_1, .int .i64 a1_2, .int .i64 a1_3, .int .i64 a1_4, .int .i64 a1_5] 54 (0, 0)) (by (with_reducible repeat (first | refine blk_drewN ?_ _ | refine blk_drew ?_ | refine blk_alloc ?_ _)); exact BK389.out) hb)
                    have n6_ := Aside0.mk (blk_below (g := gb402) (o := .cells #[.int .i64 t396, .int .i64 t397, .int .i64 t398, .int .i64 t399, .int .i64 t400, .int .i64 t401] 54 (0, 0)) (by (with_reducible repeat (first | refine blk_drewN ?_ _ | refine blk_drew ?_ | refine blk_alloc ?_ _)); exact BK402.out) hb)
                    have n7_ := Aside0.mk (blk_below (g := gb403) (o := .cells #[.int .i64 (wrap64 (a0_0 + a1_0)), .int .i64 (wrap64 (a0_1 + a1_1)), .int .i64 (wrap64 (a0_2 + a1_2)), .int .i64 (wrap64 (a0_3 + a1_3)), .int .i64 ji23, .int .i64 (wrap64 (a0_5 + a1_5))] 54 (0, 0)) (by (with_reducible repeat (first | refine blk_drewN ?_ _ | refine blk_drew ?_ | refine blk_alloc ?_ _)); exact BK403.out) hb)
                    have n8_ := Aside0.mk (below_step (by repeat (first | (with_reducible first | exact HB.out | apply below_alloc | apply pw_below_drewN | apply below_drew1 | refine below_set ?_ GE388.out | refine below_set ?_ GE389.out | refine below_set ?_ GE402.out | refine below_set ?_ GE403.out) | exact HB.out)) hb)
                    clear HO395
                    clear HO414
                    clear HO423
                    clear HO432
                    clear BK388
                    clear BK389
                    clear BK402
                    clear BK403
                    clear HB
                    have HO395 := n0_
                    have HO414 := n1_
                    have HO423 := n2_
                    have HO432 := n3_
                    have BK388 := n4_
                    have BK389 := n5_
                    have BK402 := n6_
                    have BK403 := n7_
                    have HB := n8_
                    clear n0_ n1_ n2_ n3_ n4_ n5_ n6_ n7_ n8_
                    (try clear hb)
                    (try clear hb2)
                    (try clear hk)
                    (try clear hi)
                    refine hK.out _ _ ⟨(blk_cell BK388.out 0).trans rfl, (blk_cell BK388.out 1).trans rfl, (blk_cell BK388.out 2).trans rfl, (blk_cell BK388.out 3).trans rfl, (blk_cell BK388.out 4).trans rfl, (blk_cell BK388.out 5).trans rfl, (blk_cell BK402.out 0).trans rfl, (blk_cell BK402.out 1).trans rfl, (blk_cell BK402.out 2).trans rfl, (blk_cell BK402.out 3).trans rfl, (blk_cell BK402.out 4).trans rfl, (blk_cell BK402.out 5).trans rfl, (blk_cell BK403.out 0).trans rfl, (blk_cell BK403.out 1).trans rfl, (blk_cell BK403.out 2).trans rfl, (blk_cell BK403.out 3).trans rfl, (blk_cell BK403.out 4).trans rfl, (blk_cell BK403.out 5).trans rfl, (blk_cell BK389.out 0).trans rfl, (blk_cell BK389.out 1).trans rfl, (blk_cell BK389.out 2).trans rfl, (blk_cell BK389.out 3).trans rfl, (blk_cell BK389.out 4).trans rfl, (blk_cell BK389.out 5).trans rfl⟩ (fun hHeld => ?_)
                    clear hK K
                    refine norm_ (a' := ?_) ?_ ?_
                    rotate_left
                    · show Act.put _ (some 94) _ = _
                      simp only [Act.put, List.setIfInBounds_toArray, List.set_cons_zero, List.set_cons_succ, i64_w, i32_w]
                      rfl
                    refine pure_ (i := 44) (N := some 96) (v := ?_) (a' := ?_) #[true, true, true, true, true, true, true, true, true, true, true, true, true, true, true, true, true, true, true, true, true, true, true, true, true, true, true, true, true, true, true, true, true, true, true, true, true, true, true, true, true, true, true, true, true, false, false] rfl rfl (any_of HT_.out (by kernel_rfl)) (fun _ _ _ h => h) (Or.inl ⟨by rfl, ?_⟩) ?_ ?_
                    rotate_left
                    · intro w'
                      go_simp
                      with_reducible rfl
                    rotate_left
                    · simp only [Act.put, List.setIfInBounds_toArray, List.set_cons_zero, List.set_cons_succ, i64_w, i32_w]
                      rfl
                    refine pure_ (i := 45) (N := some 97) (v := ?_) (a' := ?_) #[true, true, true, true, true, true, true, true, true, true, true, true, true, true, true, true, true, true, true, true, true, true, true, true, true, true, true, true, true, true, true, true, true, true, true, true, true, true, true, true, true, true, true, true, true, true, false] rfl rfl (any_of HT_.out (by kernel_rfl)) (fun _ _ _ h => h) (Or.inl ⟨by rfl, ?_⟩) ?_ ?_
                    rotate_left
                    · intro w'
                      go_simp
                      with_reducible rfl
                    rotate_left
                    · simp only [Act.put, List.setIfInBounds_toArray, List.set_cons_zero, List.set_cons_succ, i64_w, i32_w]
                      rfl
                    refine pure_ (i := 46) (N := some 6) (v := ?_) (a' := ?_) #[true, true, true, true, true, true, true, true, true, true, true, true, true, true, true, true, true, true, true, true, true, true, true, true, true, true, true, true, true, true, true, true, true, true, true, true, true, true, true, true, true, true, true, true, true, true, true] rfl rfl (any_of HT_.out (by kernel_rfl)) (fun _ _ _ h => h) (Or.inl ⟨by rfl, ?_⟩) ?_ ?_
                    rotate_left
                    · intro w'
                      go_simp
                      with_reducible rfl
                    rotate_left
                    · simp only [Act.put, List.setIfInBounds_toArray, List.set_cons_zero, List.set_cons_succ, i64_w, i32_w]
                      rfl
                    refine done_ (done_of HT_.out (by kernel_rfl)) ?_
                    try go_wp2
                    go_ret
                    exact ⟨by first | rfl | (simp [errW_none, errW_some] <;> rfl) | (simp only [← hji23]; first | rfl | (simp [errW_none, errW_some] <;> rfl)) | (simp [*, errW_none, errW_some] <;> rfl), by repeat (first | (with_reducible first | exact HB.out | apply below_alloc | apply pw_below_drewN | apply below_drew1 | refine below_set ?_ GE388.out | refine below_set ?_ GE389.out | refine below_set ?_ GE402.out | refine below_set ?_ GE403.out) | exact HB.out)⟩
                  · rw [if_neg c33] at H
                    exact absurd H (by simp)
                · rw [if_neg c31] at H
                  exact absurd H (by simp)
              · rw [if_neg c29] at H
                exact absurd H (by simp)
            · rw [if_neg c27] at H
              exact absurd H (by simp)
          · rw [if_neg c26] at H
            exact absurd H (by simp)
  · replace c5 := Bool.eq_false_iff.mpr c5
    subst c5
    have H1 : (none : Option Bool) = some r := by rw [if_neg (show ¬ (false = true) by decide)] at H; exact H
    exact absurd H1 (by simp)

end Go.Proofs.Ytbfjlfbahjmibaa.Pr
