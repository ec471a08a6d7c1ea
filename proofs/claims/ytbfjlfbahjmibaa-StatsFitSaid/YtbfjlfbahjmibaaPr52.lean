-- Written by wip/pr.py (over the print of the kit) out of the translation.
import Derived.Test.YtbfjlfbahjmibaaPr0
namespace Go.Proofs.Ytbfjlfbahjmibaa.Pr
open Go.RowKit Go.Proofs.YtbfjlfbahjmibaaW.PrintWords Go.Proofs.YtbfjlfbahjmibaaW.PrintLast Go.Proofs.YtbfjlfbahjmibaaW.PrintMore
attribute [local go_sem] max2_int min2_int max_two min_two max_three min_three max_four min_four   -- for this text's walks alone
set_option linter.unusedVariables false
set_option linter.unusedSimpArgs false

/-! ### stats_Fits: function 32 -/
def stats_Fits.l0 : Nat → Int → List Int → Int → Int → Int → Int → Int → Int → Int → Int → Option (Bool)
  | 0, _, _, _, _, _, _, _, _, _, _ => none
  | k + 1, x1, x19, x20, x21, x383000, x383001, x383002, x383003, x383004, x383005 => if x21 < x20 then (if 0 ≤ x21 then (if x21 < (x19.length : Int) then (if (rd x19 x21) < 0 then (some false) else (stats_Fits.l0 k x1 x19 x20 (wrap64 (x21 + 1)) x383000 x383001 x383002 x383003 x383004 x383005)) else (none)) else (none)) else (if x383001 ≤ x1 then (if x383001 ≤ x383000 then (if (wrap64 (Int.tdiv (wrap64 (x383002 + 4)) 5)) ≤ x383000 then (if (wrap64 (Int.tdiv (wrap64 (x383004 + 3)) 5)) ≤ x383000 then (some (decide (x383003 ≤ x383002))) else (some false)) else (some false)) else (some false)) else (some false))
def stats_Fits.f (k : Nat) (a0_0 : Int) (a0_1 : Int) (a0_2 : Int) (a0_3 : Int) (a0_4 : Int) (a0_5 : Int) (a1 : Int) : Option (Bool) := (some (([a0_0, a0_1, a0_2, a0_3, a0_4, a0_5] : List Int) : List Int)).bind fun y383 => (stats_Fits.l0 k a1 y383 (y383.length : Int) 0 a0_0 a0_1 a0_2 a0_3 a0_4 a0_5)
theorem stats_Fits.mono_l : ∀ k, (∀ y0 y1 y2 y3 y4 y5 y6 y7 y8 y9, LeO (stats_Fits.l0 k y0 y1 y2 y3 y4 y5 y6 y7 y8 y9) (stats_Fits.l0 (k + 1) y0 y1 y2 y3 y4 y5 y6 y7 y8 y9))
  | 0 => fun _ _ _ _ _ _ _ _ _ _ r h => by simp [stats_Fits.l0] at h
  | k + 1 => by
    have ih0 := stats_Fits.mono_l k
    · intro y0 y1 y2 y3 y4 y5 y6 y7 y8 y9
      unfold stats_Fits.l0
      repeat' first
      | (with_reducible exact ih0 _ _ _ _ _ _ _ _ _ _)
      | (with_reducible exact LeO.refl _)
      | (with_reducible exact LeO.none _)
      | (with_reducible refine LeO.ite ?_ ?_)
      | (with_reducible refine LeO.bind ?_ (fun _ => ?_))
      | exact ih0 _ _ _ _ _ _ _ _ _ _
      | exact LeO.none _
      | refine LeO.ite ?_ ?_
      | refine LeO.bind ?_ (fun _ => ?_)
theorem stats_Fits.mono : ∀ a0 a1 a2 a3 a4 a5 a6 k, LeO (stats_Fits.f k a0 a1 a2 a3 a4 a5 a6) (stats_Fits.f (k + 1) a0 a1 a2 a3 a4 a5 a6) := by
  intro a0 a1 a2 a3 a4 a5 a6 k
  have ih0 := stats_Fits.mono_l k
  unfold stats_Fits.f
  repeat' first
      | (with_reducible exact ih0 _ _ _ _ _ _ _ _ _ _)
      | (with_reducible exact LeO.refl _)
      | (with_reducible exact LeO.none _)
      | (with_reducible refine LeO.ite ?_ ?_)
      | (with_reducible refine LeO.bind ?_ (fun _ => ?_))
      | exact ih0 _ _ _ _ _ _ _ _ _ _
      | exact LeO.none _
      | refine LeO.ite ?_ ?_
      | refine LeO.bind ?_ (fun _ => ?_)
set_option maxHeartbeats 8000000 in
set_option maxRecDepth 100000 in
theorem stats_Fits.calls (k : Nat) (a0_0 : Int) (a0_1 : Int) (a0_2 : Int) (a0_3 : Int) (a0_4 : Int) (a0_5 : Int) (a1 : Int) (r : Bool) (w : World) (h : stats_Fits.f k a0_0 a0_1 a0_2 a0_3 a0_4 a0_5 a1 = some r) :
    Calls Try.prog 32 #[.agg #[.int .i64 a0_0, .int .i64 a0_1, .int .i64 a0_2, .int .i64 a0_3, .int .i64 a0_4, .int .i64 a0_5], .int .i64 a1] w fun e w' => e = .returned (.bool r) ∧ Below w.heap.size w w' := by
  have hu54 := Try.underlying54
  have HB := Aside0.mk (Below.refl w.heap.size w)
  have H : ((some (([a0_0, a0_1, a0_2, a0_3, a0_4, a0_5] : List Int) : List Int)).bind fun y383 => (stats_Fits.l0 k a1 y383 (y383.length : Int) 0 a0_0 a0_1 a0_2 a0_3 a0_4 a0_5)) = some r := h
  clear h
  obtain ⟨y383, hy383⟩ : ∃ y_ : List Int, y_ = (([a0_0, a0_1, a0_2, a0_3, a0_4, a0_5] : List Int)) := ⟨_, rfl⟩
  replace H : (stats_Fits.l0 k a1 y383 (y383.length : Int) 0 a0_0 a0_1 a0_2 a0_3 a0_4 a0_5) = some r := by first | (rw [hy383]; with_reducible exact H) | (have H2_ := (Option.bind_some _ _).symm.trans H; rw [hy383]; with_reducible exact H2_) | (have H2_ := (Option.bind_some _ _).symm.trans H; with_reducible exact H2_) | with_reducible exact H | (rw [hy383]; exact H) | exact H
  have Ny383 := Aside0.mk hy383
  clear hy383
  have H' := Aside0.mk H
  clear H
  go_enter Try.func32, Try.ntmps32
  go_wp2_with (first | ((with_reducible refine gate_dst (N := 2) rfl ?_); refine box_event ?hg (N := 2) ?hd (cs := #[.int .i64 a0_0, .int .i64 a0_1, .int .i64 a0_2, .int .i64 a0_3, .int .i64 a0_4, .int .i64 a0_5]) (t := 54) ?hr ?_; (case hd => rfl); (case hg => rfl); (case hr => first | (go_simp; done) | (go_simp; rfl)); intro gb382 hg w3 hbox hb; have n0_ := Aside0.mk (below_step (by repeat (first | (with_reducible first | exact HB.out | apply below_alloc | apply pw_below_drewN | apply below_drew1) | exact HB.out)) hb); have n1_ := Aside0.mk (hbox); have n2_ := Aside0.mk ((by rw [hg]; exact (below_size (by repeat (first | (with_reducible first | exact HB.out | apply below_alloc | apply pw_below_drewN | apply below_drew1) | exact HB.out))) : w.heap.size ≤ gb382)); have n3_ := Aside0.mk ((by rw [hg]; exact (below_size (by repeat (first | (with_reducible first | exact HB.out | apply below_alloc | apply pw_below_drewN | apply below_drew1) | exact HB.out))) : w.heap.size ≤ gb382)); clear HB; have HB := n0_; have BK382 := n1_; have GW382 := n2_; have GE382 := n3_; clear n0_ n1_ n2_ n3_; clear hb hbox hg; have hcz4_0 : w3.cell? ⟨gb382, 0, none⟩ = some (.int .i64 a0_0) := (blk_cell BK382.out 0).trans rfl; have hcz4_1 : w3.cell? ⟨gb382, 1, none⟩ = some (.int .i64 a0_1) := (blk_cell BK382.out 1).trans rfl; have hcz4_2 : w3.cell? ⟨gb382, 2, none⟩ = some (.int .i64 a0_2) := (blk_cell BK382.out 2).trans rfl; have hcz4_3 : w3.cell? ⟨gb382, 3, none⟩ = some (.int .i64 a0_3) := (blk_cell BK382.out 3).trans rfl; have hcz4_4 : w3.cell? ⟨gb382, 4, none⟩ = some (.int .i64 a0_4) := (blk_cell BK382.out 4).trans rfl; have hcz4_5 : w3.cell? ⟨gb382, 5, none⟩ = some (.int .i64 a0_5) := (blk_cell BK382.out 5).trans rfl; have hfz4_0 := blk_frozen BK382.out 0; have hfz4_1 := blk_frozen BK382.out 1; have hfz4_2 := blk_frozen BK382.out 2; have hfz4_3 := blk_frozen BK382.out 3; have hfz4_4 := blk_frozen BK382.out 4; have hfz4_5 := blk_frozen BK382.out 5) | ((with_reducible refine gate_dst (N := 19) rfl ?_); refine Kd.R_lit (Kd.int .i64) _ 3 ?hg (N := 19) ?hd (xs := ([a0_0, a0_1, a0_2, a0_3, a0_4, a0_5] : List Int)) (inner := [.int .i64 a0_0, .int .i64 a0_1, .int .i64 a0_2, .int .i64 a0_3, .int .i64 a0_4, .int .i64 a0_5]) (ok := fun _ => True) (okp := fun _ => True) ?hr ?hp (fun _ hk => hk) trivial (Below.refl _ _) (Nat.le_refl _) (by simp) ?_; (case hd => rfl); (case hg => rfl); (case hr => first | (go_simp; done) | (go_simp; rfl)); (case hp => exact (Reps.one (show Kd.M (Kd.int .i64) _ _ _ a0_0 [.int .i64 a0_0] from rfl) (Reps.one (show Kd.M (Kd.int .i64) _ _ _ a0_1 [.int .i64 a0_1] from rfl) (Reps.one (show Kd.M (Kd.int .i64) _ _ _ a0_2 [.int .i64 a0_2] from rfl) (Reps.one (show Kd.M (Kd.int .i64) _ _ _ a0_3 [.int .i64 a0_3] from rfl) (Reps.one (show Kd.M (Kd.int .i64) _ _ _ a0_4 [.int .i64 a0_4] from rfl) (Reps.one (show Kd.M (Kd.int .i64) _ _ _ a0_5 [.int .i64 a0_5] from rfl) (Reps.none _ _)))))))); intro v384 w5 ho6 hb hg_ hnew_; clear hg_ hnew_; (first | rw [← Ny383.out] at ho6 | (simp only [Int.reduceToNat] at ho6; rw [← Ny383.out] at ho6)); have n0_ := Aside0.mk (Kd.R_lower ho6 (below_size (by repeat (first | (with_reducible first | exact HB.out | apply below_alloc | apply pw_below_drewN | apply below_drew1 | refine below_set ?_ GE382.out) | exact HB.out)))); have n1_ := Aside0.mk (blk_below (g := gb382) (o := .cells #[.int .i64 a0_0, .int .i64 a0_1, .int .i64 a0_2, .int .i64 a0_3, .int .i64 a0_4, .int .i64 a0_5] 54 (0, 0)) (by (with_reducible repeat (first | refine blk_drewN ?_ _ | refine blk_drew ?_ | refine blk_alloc ?_ _)); exact BK382.out) hb); have n2_ := Aside0.mk (below_step (by repeat (first | (with_reducible first | exact HB.out | apply below_alloc | apply pw_below_drewN | apply below_drew1 | refine below_set ?_ GE382.out) | exact HB.out)) hb); clear BK382; clear HB; have HO385 := n0_; have BK382 := n1_; have HB := n2_; clear n0_ n1_ n2_; clear hb ho6; obtain ⟨Ao7, co7, eo7⟩ := Kd.R_slice HO385.out; subst eo7))
  go_loopg [21] k (fun kq v21 w' => ∃ (x21_1 : Int), v21 = .int .i64 x21_1 ∧ Aside0 (stats_Fits.l0 kq a1 y383 (y383.length : Int) x21_1 a0_0 a0_1 a0_2 a0_3 a0_4 a0_5 = some r) ∧ Aside0 (kq ≤ k) ∧ Aside0 (Kd.R (Kd.int .i64) 3 w' w.heap.size (fun _ => True) (.slice Ao7 y383.length co7) y383) ∧ Aside0 (w'.heap[gb382]? = some (.cells #[.int .i64 a0_0, .int .i64 a0_1, .int .i64 a0_2, .int .i64 a0_3, .int .i64 a0_4, .int .i64 a0_5] 54 (0, 0))) ∧ Aside0 (Below w.heap.size w w'))
  case atStart => exact ⟨(0), (by first | rfl | (simp; done) | (simp [*]; done)), H', ⟨Nat.le_refl _⟩, ⟨by (with_reducible repeat (first | apply Kd.R_alloc | apply Kd.R_drewN | apply Kd.R_drew)); exact HO385.out⟩, ⟨by (with_reducible repeat (first | refine blk_drewN ?_ _ | refine blk_drew ?_ | refine blk_alloc ?_ _)); exact BK382.out⟩, ⟨by repeat (first | (with_reducible first | exact HB.out | apply below_alloc | apply pw_below_drewN | apply below_drew1 | refine below_set ?_ GE382.out) | exact HB.out)⟩⟩
  case round =>
    clear H'
    try clear p2
    try clear c3
    try clear hcz4_0
    try clear hcz4_1
    try clear hcz4_2
    try clear hcz4_3
    try clear hcz4_4
    try clear hcz4_5
    try clear hfz4_0
    try clear hfz4_1
    try clear hfz4_2
    try clear hfz4_3
    try clear hfz4_4
    try clear hfz4_5
    obtain ⟨x21_1, rfl, HA, HK1, HO_19, BK382, HB⟩ := hrel
    cases gk with
    | zero => exact absurd HA.out (by simp [stats_Fits.l0])
    | succ k1 =>
      have H := HA.out
      clear HA
      simp only [stats_Fits.l0] at H
      by_cases c8 : x21_1 < (y383.length : Int)
      · rw [if_pos c8] at H
        have c8b0 : decide (x21_1 < (y383.length : Int)) = true := decide_eq_true c8
        clear c8
        by_cases c9 : 0 ≤ x21_1
        · rw [if_pos c9] at H
          have c9b0 : decide (0 ≤ x21_1) = true := decide_eq_true c9
          clear c9
          by_cases c10 : x21_1 < (y383.length : Int)
          · rw [if_pos c10] at H
            have c10b0 : decide (x21_1 < (y383.length : Int)) = true := decide_eq_true c10
            clear c10
            by_cases c11 : (rd y383 x21_1) < 0
            · rw [if_pos c11] at H
              have c11b0 : decide ((rd y383 x21_1) < 0) = true := decide_eq_true c11
              clear c11
              obtain rfl := Option.some.inj H
              have p386 : 0 ≤ (x21_1 : Int) := of_decide_eq_true (by first | (with_reducible assumption) | assumption)
              have q386 : x21_1 < (y383.length : Int) := of_decide_eq_true (by first | (with_reducible assumption) | assumption)
              obtain ⟨ad386, e386, hx386_0⟩ := Kd.at_int (Kd.R_reads' HO_19.out).2.2 x21_1 p386 q386
              cases e386
              replace p386 := eq_true p386
              replace q386 := eq_true q386
              go_wp2
              go_ret
              exact ⟨by first | rfl | (simp [errW_none, errW_some] <;> rfl) | (simp [*, errW_none, errW_some] <;> rfl), by repeat (first | (with_reducible first | exact HB.out | apply below_alloc | apply pw_below_drewN | apply below_drew1 | refine below_set ?_ GE382.out) | exact HB.out)⟩
            · rw [if_neg c11] at H
              have c11b0 : decide ((rd y383 x21_1) < 0) = false := decide_eq_false c11
              clear c11
              have H' := Aside0.mk H
              clear H
              have p386 : 0 ≤ (x21_1 : Int) := of_decide_eq_true (by first | (with_reducible assumption) | assumption)
              have q386 : x21_1 < (y383.length : Int) := of_decide_eq_true (by first | (with_reducible assumption) | assumption)
              obtain ⟨ad386, e386, hx386_0⟩ := Kd.at_int (Kd.R_reads' HO_19.out).2.2 x21_1 p386 q386
              cases e386
              replace p386 := eq_true p386
              replace q386 := eq_true q386
              go_wp2
              go_roundg k1
              case measure => have := HK1.out; omega
              case rel => exact ⟨(wrap64 (x21_1 + 1)), (by first | rfl | (simp; done) | (simp [*]; done)), H', ⟨by have := HK1.out; omega⟩, ⟨by (with_reducible repeat (first | apply Kd.R_alloc | apply Kd.R_drewN | apply Kd.R_drew)); exact HO_19.out⟩, ⟨by (with_reducible repeat (first | refine blk_drewN ?_ _ | refine blk_drew ?_ | refine blk_alloc ?_ _)); exact BK382.out⟩, ⟨by repeat (first | (with_reducible first | exact HB.out | apply below_alloc | apply pw_below_drewN | apply below_drew1 | refine below_set ?_ GE382.out) | exact HB.out)⟩⟩
          · rw [if_neg c10] at H
            exact absurd H (by simp)
        · rw [if_neg c9] at H
          exact absurd H (by simp)
      · rw [if_neg c8] at H
        have c8b0 : decide (x21_1 < (y383.length : Int)) = false := decide_eq_false c8
        clear c8
        by_cases c12 : a0_1 ≤ a1
        · rw [if_pos c12] at H
          have c12b0 : decide (a0_1 ≤ a1) = true := decide_eq_true c12
          clear c12
          by_cases c13 : a0_1 ≤ a0_0
          · rw [if_pos c13] at H
            have c13b0 : decide (a0_1 ≤ a0_0) = true := decide_eq_true c13
            clear c13
            by_cases c14 : (wrap64 (Int.tdiv (wrap64 (a0_2 + 4)) 5)) ≤ a0_0
            · rw [if_pos c14] at H
              have c14b0 : decide ((wrap64 (Int.tdiv (wrap64 (a0_2 + 4)) 5)) ≤ a0_0) = true := decide_eq_true c14
              clear c14
              by_cases c15 : (wrap64 (Int.tdiv (wrap64 (a0_4 + 3)) 5)) ≤ a0_0
              · rw [if_pos c15] at H
                have c15b0 : decide ((wrap64 (Int.tdiv (wrap64 (a0_4 + 3)) 5)) ≤ a0_0) = true := decide_eq_true c15
                clear c15
                obtain rfl := Option.some.inj H
                have hcz16_0 : wr.cell? ⟨gb382, 0, none⟩ = some (.int .i64 a0_0) := (blk_cell BK382.out 0).trans rfl
                have hcz16_1 : wr.cell? ⟨gb382, 1, none⟩ = some (.int .i64 a0_1) := (blk_cell BK382.out 1).trans rfl
                have hcz16_2 : wr.cell? ⟨gb382, 2, none⟩ = some (.int .i64 a0_2) := (blk_cell BK382.out 2).trans rfl
                have hcz16_3 : wr.cell? ⟨gb382, 3, none⟩ = some (.int .i64 a0_3) := (blk_cell BK382.out 3).trans rfl
                have hcz16_4 : wr.cell? ⟨gb382, 4, none⟩ = some (.int .i64 a0_4) := (blk_cell BK382.out 4).trans rfl
                have hcz16_5 : wr.cell? ⟨gb382, 5, none⟩ = some (.int .i64 a0_5) := (blk_cell BK382.out 5).trans rfl
                have hfz16_0 := blk_frozen BK382.out 0
                have hfz16_1 := blk_frozen BK382.out 1
                have hfz16_2 := blk_frozen BK382.out 2
                have hfz16_3 := blk_frozen BK382.out 3
                have hfz16_4 := blk_frozen BK382.out 4
                have hfz16_5 := blk_frozen BK382.out 5
                go_wp2
                go_ret
                exact ⟨by first | rfl | (simp [errW_none, errW_some] <;> rfl) | (simp [*, errW_none, errW_some] <;> rfl), by repeat (first | (with_reducible first | exact HB.out | apply below_alloc | apply pw_below_drewN | apply below_drew1 | refine below_set ?_ GE382.out) | exact HB.out)⟩
              · rw [if_neg c15] at H
                have c15b0 : decide ((wrap64 (Int.tdiv (wrap64 (a0_4 + 3)) 5)) ≤ a0_0) = false := decide_eq_false c15
                clear c15
                obtain rfl := Option.some.inj H
                have hcz17_0 : wr.cell? ⟨gb382, 0, none⟩ = some (.int .i64 a0_0) := (blk_cell BK382.out 0).trans rfl
                have hcz17_1 : wr.cell? ⟨gb382, 1, none⟩ = some (.int .i64 a0_1) := (blk_cell BK382.out 1).trans rfl
                have hcz17_2 : wr.cell? ⟨gb382, 2, none⟩ = some (.int .i64 a0_2) := (blk_cell BK382.out 2).trans rfl
                have hcz17_3 : wr.cell? ⟨gb382, 3, none⟩ = some (.int .i64 a0_3) := (blk_cell BK382.out 3).trans rfl
                have hcz17_4 : wr.cell? ⟨gb382, 4, none⟩ = some (.int .i64 a0_4) := (blk_cell BK382.out 4).trans rfl
                have hcz17_5 : wr.cell? ⟨gb382, 5, none⟩ = some (.int .i64 a0_5) := (blk_cell BK382.out 5).trans rfl
                have hfz17_0 := blk_frozen BK382.out 0
                have hfz17_1 := blk_frozen BK382.out 1
                have hfz17_2 := blk_frozen BK382.out 2
                have hfz17_3 := blk_frozen BK382.out 3
                have hfz17_4 := blk_frozen BK382.out 4
                have hfz17_5 := blk_frozen BK382.out 5
                go_wp2
                go_ret
                exact ⟨by first | rfl | (simp [errW_none, errW_some] <;> rfl) | (simp [*, errW_none, errW_some] <;> rfl), by repeat (first | (with_reducible first | exact HB.out | apply below_alloc | apply pw_below_drewN | apply below_drew1 | refine below_set ?_ GE382.out) | exact HB.out)⟩
            · rw [if_neg c14] at H
              have c14b0 : decide ((wrap64 (Int.tdiv (wrap64 (a0_2 + 4)) 5)) ≤ a0_0) = false := decide_eq_false c14
              clear c14
              obtain rfl := Option.some.inj H
              have hcz18_0 : wr.cell? ⟨gb382, 0, none⟩ = some (.int .i64 a0_0) := (blk_cell BK382.out 0).trans rfl
              have hcz18_1 : wr.cell? ⟨gb382, 1, none⟩ = some (.int .i64 a0_1) := (blk_cell BK382.out 1).trans rfl
              have hcz18_2 : wr.cell? ⟨gb382, 2, none⟩ = some (.int .i64 a0_2) := (blk_cell BK382.out 2).trans rfl
              have hcz18_3 : wr.cell? ⟨gb382, 3, none⟩ = some (.int .i64 a0_3) := (blk_cell BK382.out 3).trans rfl
              have hcz18_4 : wr.cell? ⟨gb382, 4, none⟩ = some (.int .i64 a0_4) := (blk_cell BK382.out 4).trans rfl
              have hcz18_5 : wr.cell? ⟨gb382, 5, none⟩ = some (.int .i64 a0_5) := (blk_cell BK382.out 5).trans rfl
              have hfz18_0 := blk_frozen BK382.out 0
              have hfz18_1 := blk_frozen BK382.out 1
              have hfz18_2 := blk_frozen BK382.out 2
              have hfz18_3 := blk_frozen BK382.out 3
              have hfz18_4 := blk_frozen BK382.out 4
              have hfz18_5 := blk_frozen BK382.out 5
              go_wp2
              go_ret
              exact ⟨by first | rfl | (simp [errW_none, errW_some] <;> rfl) | (simp [*, errW_none, errW_some] <;> rfl), by repeat (first | (with_reducible first | exact HB.out | apply below_alloc | apply pw_below_drewN | apply below_drew1 | refine below_set ?_ GE382.out) | exact HB.out)⟩
          · rw [if_neg c13] at H
            have c13b0 : decide (a0_1 ≤ a0_0) = false := decide_eq_false c13
            clear c13
            obtain rfl := Option.some.inj H
            have hcz19_0 : wr.cell? ⟨gb382, 0, none⟩ = some (.int .i64 a0_0) := (blk_cell BK382.out 0).trans rfl
            have hcz19_1 : wr.cell? ⟨gb382, 1, none⟩ = some (.int .i64 a0_1) := (blk_cell BK382.out 1).trans rfl
            have hcz19_2 : wr.cell? ⟨gb382, 2, none⟩ = some (.int .i64 a0_2) := (blk_cell BK382.out 2).trans rfl
            have hcz19_3 : wr.cell? ⟨gb382, 3, none⟩ = some (.int .i64 a0_3) := (blk_cell BK382.out 3).trans rfl
            have hcz19_4 : wr.cell? ⟨gb382, 4, none⟩ = some (.int .i64 a0_4) := (blk_cell BK382.out 4).trans rfl
            have hcz19_5 : wr.cell? ⟨gb382, 5, none⟩ = some (.int .i64 a0_5) := (blk_cell BK382.out 5).trans rfl
            have hfz19_0 := blk_frozen BK382.out 0
            have hfz19_1 := blk_frozen BK382.out 1
            have hfz19_2 := blk_frozen BK382.out 2
            have hfz19_3 := blk_frozen BK382.out 3
            have hfz19_4 := blk_frozen BK382.out 4
            have hfz19_5 := blk_frozen BK382.out 5
            go_wp2
            go_ret
            exact ⟨by first | rfl | (simp [errW_none, errW_some] <;> rfl) | (simp [*, errW_none, errW_some] <;> rfl), by repeat (first | (with_reducible first | exact HB.out | apply below_alloc | apply pw_below_drewN | apply below_drew1 | refine below_set ?_ GE382.out) | exact HB.out)⟩
        · rw [if_neg c12] at H
          have c12b0 : decide (a0_1 ≤ a1) = false := decide_eq_false c12
          clear c12
          obtain rfl := Option.some.inj H
          have hcz20_0 : wr.cell? ⟨gb382, 0, none⟩ = some (.int .i64 a0_0) := (blk_cell BK382.out 0).trans rfl
          have hcz20_1 : wr.cell? ⟨gb382, 1, none⟩ = some (.int .i64 a0_1) := (blk_cell BK382.out 1).trans rfl
          have hcz20_2 : wr.cell? ⟨gb382, 2, none⟩ = some (.int .i64 a0_2) := (blk_cell BK382.out 2).trans rfl
          have hcz20_3 : wr.cell? ⟨gb382, 3, none⟩ = some (.int .i64 a0_3) := (blk_cell BK382.out 3).trans rfl
          have hcz20_4 : wr.cell? ⟨gb382, 4, none⟩ = some (.int .i64 a0_4) := (blk_cell BK382.out 4).trans rfl
          have hcz20_5 : wr.cell? ⟨gb382, 5, none⟩ = some (.int .i64 a0_5) := (blk_cell BK382.out 5).trans rfl
          have hfz20_0 := blk_frozen BK382.out 0
          have hfz20_1 := blk_frozen BK382.out 1
          have hfz20_2 := blk_frozen BK382.out 2
          have hfz20_3 := blk_frozen BK382.out 3
          have hfz20_4 := blk_frozen BK382.out 4
          have hfz20_5 := blk_frozen BK382.out 5
          go_wp2
          go_ret
          exact ⟨by first | rfl | (simp [errW_none, errW_some] <;> rfl) | (simp [*, errW_none, errW_some] <;> rfl), by repeat (first | (with_reducible first | exact HB.out | apply below_alloc | apply pw_below_drewN | apply below_drew1 | refine below_set ?_ GE382.out) | exact HB.out)⟩

end Go.Proofs.Ytbfjlfbahjmibaa.Pr
