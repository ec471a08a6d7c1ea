-- Written by wip/pr.py (over the print of the kit) out of the translation.
import Derived.Test.YtbfjlfbahjmibaaPr0
namespace Go.Proofs.Ytbfjlfbahjmibaa.Pr
open Go.RowKit Go.Proofs.YtbfjlfbahjmibaaW.PrintWords Go.Proofs.YtbfjlfbahjmibaaW.PrintLast Go.Proofs.YtbfjlfbahjmibaaW.PrintMore
attribute [local go_sem] max2_int min2_int max_two min_two max_three min_three max_four min_four   -- for this text's walks alone
set_option linter.unusedVariables false
set_option linter.unusedSimpArgs false

/-! ### gluepotref16_Count: function 37 -/
mutual
def gluepotref16_Count.l0 : Nat → List (List ByteArray) → List Int → Int → Int → ByteArray → ByteArray → Option (Int)
  | 0, _, _, _, _, _, _ => none
  | k + 1, x0, x1, x7, x8, x243000, x243001 => if x8 < (x0.length : Int) then (gluepotref16_Count.j1 k x0 x1 x7 x8 (decide (x8 < (x1.length : Int))) x243000 x243001) else (gluepotref16_Count.j1 k x0 x1 x7 x8 false x243000 x243001)
def gluepotref16_Count.j1 : Nat → List (List ByteArray) → List Int → Int → Int → Bool → ByteArray → ByteArray → Option (Int)
  | 0, _, _, _, _, _, _, _ => none
  | k + 1, x0, x1, x7, x8, x19, x243000, x243001 => if x19 = true then (if 0 ≤ x8 then (if x8 < (x1.length : Int) then (if (rd x1 x8) < 1 then (gluepotref16_Count.l0 k x0 x1 x7 (wrap64 (x8 + 1)) x243000 x243001) else (gluepotref16_Count.l1 k x0 x1 x7 x8 0 x243000 x243001)) else (none)) else (none)) else (some x7)
def gluepotref16_Count.l1 : Nat → List (List ByteArray) → List Int → Int → Int → Int → ByteArray → ByteArray → Option (Int)
  | 0, _, _, _, _, _, _, _ => none
  | k + 1, x0, x1, x7, x8, x9, x243000, x243001 => if 0 ≤ x8 then (if x8 < (x0.length : Int) then (if (wrap64 (x9 + 1)) < ((rd_L4 x0 x8).length : Int) then (if 0 ≤ x9 then (if x9 < ((rd_L4 x0 x8).length : Int) then (if (rdOf ByteArray.empty (rd_L4 x0 x8) x9).toList = x243000.toList then (if 0 ≤ (wrap64 (x9 + 1)) then (if (rdOf ByteArray.empty (rd_L4 x0 x8) (wrap64 (x9 + 1))).toList = x243001.toList then (if x8 < (x1.length : Int) then (gluepotref16_Count.l1 k x0 x1 (wrap64 (x7 + (rd x1 x8))) x8 (wrap64 (x9 + 1)) x243000 x243001) else (none)) else (gluepotref16_Count.l1 k x0 x1 x7 x8 (wrap64 (x9 + 1)) x243000 x243001)) else (none)) else (gluepotref16_Count.l1 k x0 x1 x7 x8 (wrap64 (x9 + 1)) x243000 x243001)) else (none)) else (none)) else (gluepotref16_Count.l0 k x0 x1 x7 (wrap64 (x8 + 1)) x243000 x243001)) else (none)) else (none)
end
def gluepotref16_Count.f (k : Nat) (l0 : List (List ByteArray)) (l1 : List Int) (a2_0 : ByteArray) (a2_1 : ByteArray) : Option (Int) := gluepotref16_Count.l0 k l0 l1 0 0 a2_0 a2_1
theorem gluepotref16_Count.mono_l : ∀ k, (∀ y0 y1 y2 y3 y4 y5, LeO (gluepotref16_Count.l0 k y0 y1 y2 y3 y4 y5) (gluepotref16_Count.l0 (k + 1) y0 y1 y2 y3 y4 y5)) ∧ (∀ y0 y1 y2 y3 y4 y5 y6, LeO (gluepotref16_Count.j1 k y0 y1 y2 y3 y4 y5 y6) (gluepotref16_Count.j1 (k + 1) y0 y1 y2 y3 y4 y5 y6)) ∧ (∀ y0 y1 y2 y3 y4 y5 y6, LeO (gluepotref16_Count.l1 k y0 y1 y2 y3 y4 y5 y6) (gluepotref16_Count.l1 (k + 1) y0 y1 y2 y3 y4 y5 y6))
  | 0 => ⟨fun _ _ _ _ _ _ r h => by simp [gluepotref16_Count.l0] at h, fun _ _ _ _ _ _ _ r h => by simp [gluepotref16_Count.j1] at h, fun _ _ _ _ _ _ _ r h => by simp [gluepotref16_Count.l1] at h⟩
  | k + 1 => by
    obtain ⟨ih0, ih1, ih2⟩ := gluepotref16_Count.mono_l k
    refine ⟨?_, ?_, ?_⟩
    · intro y0 y1 y2 y3 y4 y5
      unfold gluepotref16_Count.l0
      repeat' first
      | (with_reducible exact ih0 _ _ _ _ _ _)
      | (with_reducible exact ih1 _ _ _ _ _ _ _)
      | (with_reducible exact ih2 _ _ _ _ _ _ _)
      | (with_reducible exact LeO.refl _)
      | (with_reducible exact LeO.none _)
      | (with_reducible refine LeO.ite ?_ ?_)
      | (with_reducible refine LeO.bind ?_ (fun _ => ?_))
      | exact ih0 _ _ _ _ _ _
      | exact ih1 _ _ _ _ _ _ _
      | exact ih2 _ _ _ _ _ _ _
      | exact LeO.none _
      | refine LeO.ite ?_ ?_
      | refine LeO.bind ?_ (fun _ => ?_)
    · intro y0 y1 y2 y3 y4 y5 y6
      unfold gluepotref16_Count.j1
      repeat' first
      | (with_reducible exact ih0 _ _ _ _ _ _)
      | (with_reducible exact ih1 _ _ _ _ _ _ _)
      | (with_reducible exact ih2 _ _ _ _ _ _ _)
      | (with_reducible exact LeO.refl _)
      | (with_reducible exact LeO.none _)
      | (with_reducible refine LeO.ite ?_ ?_)
      | (with_reducible refine LeO.bind ?_ (fun _ => ?_))
      | exact ih0 _ _ _ _ _ _
      | exact ih1 _ _ _ _ _ _ _
      | exact ih2 _ _ _ _ _ _ _
      | exact LeO.none _
      | refine LeO.ite ?_ ?_
      | refine LeO.bind ?_ (fun _ => ?_)
    · intro y0 y1 y2 y3 y4 y5 y6
      unfold gluepotref16_Count.l1
      repeat' first
      | (with_reducible exact ih0 _ _ _ _ _ _)
      | (with_reducible exact ih1 _ _ _ _ _ _ _)
      | (with_reducible exact ih2 _ _ _ _ _ _ _)
      | (with_reducible exact LeO.refl _)
      | (with_reducible exact LeO.none _)
      | (with_reducible refine LeO.ite ?_ ?_)
      | (with_reducible refine LeO.bind ?_ (fun _ => ?_))
      | exact ih0 _ _ _ _ _ _
      | exact ih1 _ _ _ _ _ _ _
      | exact ih2 _ _ _ _ _ _ _
      | exact LeO.none _
      | refine LeO.ite ?_ ?_
      | refine LeO.bind ?_ (fun _ => ?_)
theorem gluepotref16_Count.mono : ∀ a0 a1 a2 a3 k, LeO (gluepotref16_Count.f k a0 a1 a2 a3) (gluepotref16_Count.f (k + 1) a0 a1 a2 a3) := by
  intro a0 a1 a2 a3 k
  obtain ⟨ih0, ih1, ih2⟩ := gluepotref16_Count.mono_l k
  unfold gluepotref16_Count.f
  repeat' first
      | (with_reducible exact ih0 _ _ _ _ _ _)
      | (with_reducible exact ih1 _ _ _ _ _ _ _)
      | (with_reducible exact ih2 _ _ _ _ _ _ _)
      | (with_reducible exact LeO.refl _)
      | (with_reducible exact LeO.none _)
      | (with_reducible refine LeO.ite ?_ ?_)
      | (with_reducible refine LeO.bind ?_ (fun _ => ?_))
      | exact ih0 _ _ _ _ _ _
      | exact ih1 _ _ _ _ _ _ _
      | exact ih2 _ _ _ _ _ _ _
      | exact LeO.none _
      | refine LeO.ite ?_ ?_
      | refine LeO.bind ?_ (fun _ => ?_)
set_option maxHeartbeats 8000000 in
set_option maxRecDepth 100000 in
theorem gluepotref16_Count.calls (k : Nat) (A0 : Option Addr) (c0 : Nat) (l0 : List (List ByteArray)) (A1 : Option Addr) (c1 : Nat) (l1 : List Int) (a2_0 : ByteArray) (a2_1 : ByteArray) (r : Int) (w : World) (hr0 : Kd.C (Kd.slice 9 Kd.string) w A0 l0.length l0) (hc0 : l0.length ≤ c0) (hr1 : Kd.C (Kd.int .i64) w A1 l1.length l1) (hc1 : l1.length ≤ c1) (h : gluepotref16_Count.f k l0 l1 a2_0 a2_1 = some r) :
    Calls Try.prog 37 #[.slice A0 l0.length c0, .slice A1 l1.length c1, .agg #[.string a2_0, .string a2_1]] w fun e w' => e = .returned (.int .i64 r) ∧ Below w.heap.size w w' := by
  have hu45 := Try.underlying45
  have HR0 := Aside0.mk hr0
  have HC0 := Aside0.mk hc0
  clear hr0 hc0
  have HR1 := Aside0.mk hr1
  have HC1 := Aside0.mk hc1
  clear hr1 hc1
  have HB := Aside0.mk (Below.refl w.heap.size w)
  have H : (gluepotref16_Count.l0 k l0 l1 0 0 a2_0 a2_1) = some r := h
  clear h
  have H' := Aside0.mk H
  clear H
  go_enter Try.func37, Try.ntmps37
  go_wp2_with (first | ((with_reducible refine gate_dst (N := 5) rfl ?_); (try (refine gate_guard (by rfl) ?_; dsimp only)); refine box_event ?hg (N := 5) ?hd (cs := #[.string a2_0, .string a2_1]) (t := 45) ?hr ?_; (case hd => rfl); (case hg => rfl); (case hr => first | (go_simp; done) | (go_simp; rfl)); intro gb242 hg w4 hbox hb; have n0_ := Aside0.mk (below_step (by repeat (first | (with_reducible first | exact HB.out | apply below_alloc | apply pw_below_drewN | apply below_drew1) | exact HB.out)) hb); have n1_ := Aside0.mk (hbox); have n2_ := Aside0.mk ((by rw [hg]; exact (below_size (by repeat (first | (with_reducible first | exact HB.out | apply below_alloc | apply pw_below_drewN | apply below_drew1) | exact HB.out))) : w.heap.size ≤ gb242)); have n3_ := Aside0.mk ((by rw [hg]; exact (below_size (by repeat (first | (with_reducible first | exact HB.out | apply below_alloc | apply pw_below_drewN | apply below_drew1) | exact HB.out))) : w.heap.size ≤ gb242)); clear HB; have HB := n0_; have BK242 := n1_; have GW242 := n2_; have GE242 := n3_; clear n0_ n1_ n2_ n3_; clear hb hbox hg))
  repeat (go_quiet (first | ((with_reducible refine gate_dst (N := 5) rfl ?_); (try (refine gate_guard (by rfl) ?_; dsimp only)); refine box_event ?hg (N := 5) ?hd (cs := #[.string a2_0, .string a2_1]) (t := 45) ?hr ?_; (case hd => rfl); (case hg => rfl); (case hr => first | (go_simp; done) | (go_simp; rfl)); intro gb242 hg w4 hbox hb; have n0_ := Aside0.mk (below_step (by repeat (first | (with_reducible first | exact HB.out | apply below_alloc | apply pw_below_drewN | apply below_drew1) | exact HB.out)) hb); have n1_ := Aside0.mk (hbox); have n2_ := Aside0.mk ((by rw [hg]; exact (below_size (by repeat (first | (with_reducible first | exact HB.out | apply below_alloc | apply pw_below_drewN | apply below_drew1) | exact HB.out))) : w.heap.size ≤ gb242)); have n3_ := Aside0.mk ((by rw [hg]; exact (below_size (by repeat (first | (with_reducible first | exact HB.out | apply below_alloc | apply pw_below_drewN | apply below_drew1) | exact HB.out))) : w.heap.size ≤ gb242)); clear HB; have HB := n0_; have BK242 := n1_; have GW242 := n2_; have GE242 := n3_; clear n0_ n1_ n2_ n3_; clear hb hbox hg)); try go_wp2_with (first | ((with_reducible refine gate_dst (N := 5) rfl ?_); (try (refine gate_guard (by rfl) ?_; dsimp only)); refine box_event ?hg (N := 5) ?hd (cs := #[.string a2_0, .string a2_1]) (t := 45) ?hr ?_; (case hd => rfl); (case hg => rfl); (case hr => first | (go_simp; done) | (go_simp; rfl)); intro gb242 hg w4 hbox hb; have n0_ := Aside0.mk (below_step (by repeat (first | (with_reducible first | exact HB.out | apply below_alloc | apply pw_below_drewN | apply below_drew1) | exact HB.out)) hb); have n1_ := Aside0.mk (hbox); have n2_ := Aside0.mk ((by rw [hg]; exact (below_size (by repeat (first | (with_reducible first | exact HB.out | apply below_alloc | apply pw_below_drewN | apply below_drew1) | exact HB.out))) : w.heap.size ≤ gb242)); have n3_ := Aside0.mk ((by rw [hg]; exact (below_size (by repeat (first | (with_reducible first | exact HB.out | apply below_alloc | apply pw_below_drewN | apply below_drew1) | exact HB.out))) : w.heap.size ≤ gb242)); clear HB; have HB := n0_; have BK242 := n1_; have GW242 := n2_; have GE242 := n3_; clear n0_ n1_ n2_ n3_; clear hb hbox hg)))
  go_loopg [7, 8] k (fun kq v7 v8 w' => ∃ (x7_1 : Int) (x8_1 : Int), v7 = .int .i64 x7_1 ∧ v8 = .int .i64 x8_1 ∧ Aside0 (gluepotref16_Count.l0 kq l0 l1 x7_1 x8_1 a2_0 a2_1 = some r) ∧ Aside0 (kq ≤ k) ∧ Aside0 (w'.heap[gb242]? = some (.cells #[.string a2_0, .string a2_1] 45 (0, 0))) ∧ Aside0 (Below w.heap.size w w'))
  case atStart => exact ⟨(0), (0), (by first | rfl | (simp; done) | (simp [*]; done)), (by first | rfl | (simp; done) | (simp [*]; done)), H', ⟨Nat.le_refl _⟩, ⟨by (with_reducible repeat (first | refine blk_drewN ?_ _ | refine blk_drew ?_ | refine blk_alloc ?_ _)); exact BK242.out⟩, ⟨by repeat (first | (with_reducible first | exact HB.out | apply below_alloc | apply pw_below_drewN | apply below_drew1 | refine below_set ?_ GE242.out) | exact HB.out)⟩⟩
  case round =>
    clear H'
    try clear c1
    try clear p2
    try clear c3
    obtain ⟨x7_1, x8_1, rfl, rfl, HA, HK1, BK242, HB⟩ := hrel
    cases gk with
    | zero => exact absurd HA.out (by simp [gluepotref16_Count.l0])
    | succ k1 =>
      have H := HA.out
      clear HA
      simp only [gluepotref16_Count.l0] at H
      have HC5 := Aside0.mk H
      clear H
      go_upto_region 3 with (fail)
      repeat (go_quiet (fail); go_upto_region 3 with (fail))
      go_cut [19] (fun v19 wc => ∃ (kq : Nat) (x19_4 : Bool), v19 = .bool x19_4 ∧ Aside0 (gluepotref16_Count.j1 kq l0 l1 x7_1 x8_1 x19_4 a2_0 a2_1 = some r) ∧ Aside0 (kq ≤ k1) ∧ Aside0 (wc.heap[gb242]? = some (.cells #[.string a2_0, .string a2_1] 45 (0, 0))) ∧ Aside0 (Below w.heap.size w wc))
      case first =>
        have H := HC5.out
        clear HC5
        by_cases c6 : x8_1 < (l0.length : Int)
        · rw [if_pos c6] at H
          have c6b0 : decide (x8_1 < (l0.length : Int)) = true := decide_eq_true c6
          clear c6
          (first | rw [c6b0] | (simp only [i64_w, i32_w]; rw [c6b0]) | skip)
          have H' := Aside0.mk H
          clear H
          go_wp2
          repeat (go_quiet (fail); try go_wp2)
          go_meet
          case rel => exact ⟨_, (decide (x8_1 < (l1.length : Int))), (by first | rfl | (simp; done) | (simp [*]; done)), H', ⟨by have := HK1.out; first | omega | exact Nat.le_refl _⟩, ⟨by (with_reducible repeat (first | refine blk_drewN ?_ _ | refine blk_drew ?_ | refine blk_alloc ?_ _)); exact BK242.out⟩, ⟨by repeat (first | (with_reducible first | exact HB.out | apply below_alloc | apply pw_below_drewN | apply below_drew1 | refine below_set ?_ GE242.out) | exact HB.out)⟩⟩
        · rw [if_neg c6] at H
          have c6b0 : decide (x8_1 < (l0.length : Int)) = false := decide_eq_false c6
          clear c6
          (first | rw [c6b0] | (simp only [i64_w, i32_w]; rw [c6b0]) | skip)
          have H' := Aside0.mk H
          clear H
          go_wp2
          repeat (go_quiet (fail); try go_wp2)
          go_meet
          case rel => exact ⟨_, (false), (by first | rfl | (simp; done) | (simp [*]; done)), H', ⟨by have := HK1.out; first | omega | exact Nat.le_refl _⟩, ⟨by (with_reducible repeat (first | refine blk_drewN ?_ _ | refine blk_drew ?_ | refine blk_alloc ?_ _)); exact BK242.out⟩, ⟨by repeat (first | (with_reducible first | exact HB.out | apply below_alloc | apply pw_below_drewN | apply below_drew1 | refine below_set ?_ GE242.out) | exact HB.out)⟩⟩
      case rest =>
        clear HC5
        try clear c1
        try clear p2
        try clear c3
        try clear c6
        try clear c6b0
        try clear p2
        obtain ⟨kq, x19_4, rfl, HA, HJ4, BK242, HB⟩ := hcut
        cases kq with
        | zero => exact absurd HA.out (by simp [gluepotref16_Count.j1])
        | succ kj4 =>
          have H := HA.out
          clear HA
          simp only [gluepotref16_Count.j1] at H
          by_cases c7 : x19_4 = true
          · subst c7
            have H1 : (if 0 ≤ x8_1 then (if x8_1 < (l1.length : Int) then (if (rd l1 x8_1) < 1 then (gluepotref16_Count.l0 kj4 l0 l1 x7_1 (wrap64 (x8_1 + 1)) a2_0 a2_1) else (gluepotref16_Count.l1 kj4 l0 l1 x7_1 x8_1 0 a2_0 a2_1)) else (none)) else (none)) = some r := by rw [if_pos rfl] at H; exact H
            clear H
            have H := H1
            clear H1
            by_cases c8 : 0 ≤ x8_1
            · rw [if_pos c8] at H
              have c8b0 : decide (0 ≤ x8_1) = true := decide_eq_true c8
              clear c8
              by_cases c9 : x8_1 < (l1.length : Int)
              · rw [if_pos c9] at H
                have c9b0 : decide (x8_1 < (l1.length : Int)) = true := decide_eq_true c9
                clear c9
                by_cases c10 : (rd l1 x8_1) < 1
                · rw [if_pos c10] at H
                  have c10b0 : decide ((rd l1 x8_1) < 1) = true := decide_eq_true c10
                  clear c10
                  have H' := Aside0.mk H
                  clear H
                  have p243 : 0 ≤ (x8_1 : Int) := of_decide_eq_true (by first | (with_reducible assumption) | assumption)
                  have q243 : x8_1 < (l1.length : Int) := of_decide_eq_true (by first | (with_reducible assumption) | assumption)
                  obtain ⟨ad243, e243, hx243_0⟩ := Kd.at_int HR1.out x8_1 p243 q243
                  cases e243
                  replace hx243_0 := (HB.out.cell (World.block_lt_of_cell? w _ hx243_0)).trans hx243_0
                  replace p243 := eq_true p243
                  replace q243 := eq_true q243
                  go_wp2
                  repeat (go_quiet (fail); try go_wp2)
                  go_roundg kj4
                  case measure => have := HK1.out; have := HJ4.out; omega
                  case rel => exact ⟨(x7_1), (wrap64 (x8_1 + 1)), (by first | rfl | (simp; done) | (simp [*]; done)), (by first | rfl | (simp; done) | (simp [*]; done)), H', ⟨by have := HK1.out; have := HJ4.out; omega⟩, ⟨by (with_reducible repeat (first | refine blk_drewN ?_ _ | refine blk_drew ?_ | refine blk_alloc ?_ _)); exact BK242.out⟩, ⟨by repeat (first | (with_reducible first | exact HB.out | apply below_alloc | apply pw_below_drewN | apply below_drew1 | refine below_set ?_ GE242.out) | exact HB.out)⟩⟩
                · rw [if_neg c10] at H
                  have c10b0 : decide ((rd l1 x8_1) < 1) = false := decide_eq_false c10
                  clear c10
                  have H' := Aside0.mk H
                  clear H
                  have p243 : 0 ≤ (x8_1 : Int) := of_decide_eq_true (by first | (with_reducible assumption) | assumption)
                  have q243 : x8_1 < (l1.length : Int) := of_decide_eq_true (by first | (with_reducible assumption) | assumption)
                  obtain ⟨ad243, e243, hx243_0⟩ := Kd.at_int HR1.out x8_1 p243 q243
                  cases e243
                  replace hx243_0 := (HB.out.cell (World.block_lt_of_cell? w _ hx243_0)).trans hx243_0
                  replace p243 := eq_true p243
                  replace q243 := eq_true q243
                  go_wp2
                  repeat (go_quiet (fail); try go_wp2)
                  go_loopg [7, 9] kj4 (fun kq v7 v9 w' => ∃ (x7_3 : Int) (x9_3 : Int), v7 = .int .i64 x7_3 ∧ v9 = .int .i64 x9_3 ∧ Aside0 (gluepotref16_Count.l1 kq l0 l1 x7_3 x8_1 x9_3 a2_0 a2_1 = some r) ∧ Aside0 (kq ≤ kj4) ∧ Aside0 (w'.heap[gb242]? = some (.cells #[.string a2_0, .string a2_1] 45 (0, 0))) ∧ Aside0 (Below w.heap.size w w'))
                  case atStart => exact ⟨(x7_1), (0), (by first | rfl | (simp; done) | (simp [*]; done)), (by first | rfl | (simp; done) | (simp [*]; done)), H', ⟨Nat.le_refl _⟩, ⟨by (with_reducible repeat (first | refine blk_drewN ?_ _ | refine blk_drew ?_ | refine blk_alloc ?_ _)); exact BK242.out⟩, ⟨by repeat (first | (with_reducible first | exact HB.out | apply below_alloc | apply pw_below_drewN | apply below_drew1 | refine below_set ?_ GE242.out) | exact HB.out)⟩⟩
                  case round =>
                    clear H'
                    try clear c1
                    try clear p2
                    try clear q2
                    try clear hx2
                    try clear c3
                    try clear c6
                    try clear c6b0
                    try clear p6
                    try clear c7
                    try clear c8
                    try clear c8b0
                    try clear c9
                    try clear c9b0
                    try clear c10
                    try clear c10b0
                    try clear hx243_0
                    try clear p2
                    try clear p243
                    try clear q243
                    obtain ⟨x7_3, x9_3, rfl, rfl, HA, HK3, BK242, HB⟩ := hrel
                    cases gk with
                    | zero => exact absurd HA.out (by simp [gluepotref16_Count.l1])
                    | succ k3 =>
                      have H := HA.out
                      clear HA
                      simp only [gluepotref16_Count.l1] at H
                      by_cases c11 : 0 ≤ x8_1
                      · rw [if_pos c11] at H
                        have c11b0 : decide (0 ≤ x8_1) = true := decide_eq_true c11
                        clear c11
                        by_cases c12 : x8_1 < (l0.length : Int)
                        · rw [if_pos c12] at H
                          have c12b0 : decide (x8_1 < (l0.length : Int)) = true := decide_eq_true c12
                          clear c12
                          by_cases c13 : (wrap64 (x9_3 + 1)) < ((rd_L4 l0 x8_1).length : Int)
                          · rw [if_pos c13] at H
                            have c13b0 : decide ((wrap64 (x9_3 + 1)) < ((rd_L4 l0 x8_1).length : Int)) = true := decide_eq_true c13
                            clear c13
                            by_cases c14 : 0 ≤ x9_3
                            · rw [if_pos c14] at H
                              have c14b0 : decide (0 ≤ x9_3) = true := decide_eq_true c14
                              clear c14
                              by_cases c15 : x9_3 < ((rd_L4 l0 x8_1).length : Int)
                              · rw [if_pos c15] at H
                                have c15b0 : decide (x9_3 < ((rd_L4 l0 x8_1).length : Int)) = true := decide_eq_true c15
                                clear c15
                                by_cases c16 : (rdOf ByteArray.empty (rd_L4 l0 x8_1) x9_3).toList = a2_0.toList
                                · rw [if_pos c16] at H
                                  have c16b0 : ((rdOf ByteArray.empty (rd_L4 l0 x8_1) x9_3).toList == a2_0.toList) = true := beq_iff_eq.mpr c16
                                  have c16b1 : ((rdOf ByteArray.empty (rd_L4 l0 x8_1) x9_3).toList != a2_0.toList) = false := bne_eq_false_iff_eq.mpr c16
                                  clear c16
                                  obtain ⟨ji17, hji17⟩ : ∃ j_ : Int, (wrap64 (x9_3 + 1)) = j_ := ⟨_, rfl⟩
                                  replace H : (if 0 ≤ (ji17) then (if (rdOf ByteArray.empty (rd_L4 l0 x8_1) (ji17)).toList = a2_1.toList then (if x8_1 < (l1.length : Int) then (gluepotref16_Count.l1 k3 l0 l1 (wrap64 (x7_3 + (rd l1 x8_1))) x8_1 ji17 a2_0 a2_1) else (none)) else (gluepotref16_Count.l1 k3 l0 l1 x7_3 x8_1 ji17 a2_0 a2_1)) else (none)) = some r := by first | (rw [hji17] at H; exact H) | (simp only [hji17] at H ⊢; exact H)
                                  (try rw [hji17] at c13b0)
                                  have hji17w : (IntKind.i64.wrap (x9_3 + 1)) = ji17 := (i64_w _).trans hji17
                                  by_cases c18 : 0 ≤ (ji17)
                                  · rw [if_pos c18] at H
                                    have c18b0 : decide (0 ≤ (ji17)) = true := decide_eq_true c18
                                    clear c18
                                    by_cases c19 : (rdOf ByteArray.empty (rd_L4 l0 x8_1) (ji17)).toList = a2_1.toList
                                    · rw [if_pos c19] at H
                                      have c19b0 : ((rdOf ByteArray.empty (rd_L4 l0 x8_1) (ji17)).toList == a2_1.toList) = true := beq_iff_eq.mpr c19
                                      have c19b1 : ((rdOf ByteArray.empty (rd_L4 l0 x8_1) (ji17)).toList != a2_1.toList) = false := bne_eq_false_iff_eq.mpr c19
                                      clear c19
                                      by_cases c20 : x8_1 < (l1.length : Int)
                                      · rw [if_pos c20] at H
                                        have c20b0 : decide (x8_1 < (l1.length : Int)) = true := decide_eq_true c20
                                        clear c20
                                        have H' := Aside0.mk H
                                        clear H
                                        have p244 : 0 ≤ (x8_1 : Int) := of_decide_eq_true (by first | (with_reducible assumption) | assumption)
                                        have q244 : x8_1 < (l0.length : Int) := of_decide_eq_true (by first | (with_reducible assumption) | assumption)
                                        obtain ⟨ad244, A244_0, c244_0, e244, hx244_0, hl244_0, hi244_0⟩ := at_L4 HR0.out x8_1 p244 q244
                                        cases e244
                                        replace hx244_0 := (HB.out.cell (World.block_lt_of_cell? w _ hx244_0)).trans hx244_0
                                        have HR244_0 := Aside0.mk hi244_0
                                        have HC244_0 := Aside0.mk hl244_0
                                        clear hi244_0 hl244_0
                                        replace p244 := eq_true p244
                                        replace q244 := eq_true q244
                                        have p245 : 0 ≤ (x8_1 : Int) := of_decide_eq_true (by first | (with_reducible assumption) | assumption)
                                        have q245 : x8_1 < (l0.length : Int) := of_decide_eq_true (by first | (with_reducible assumption) | assumption)
                                        obtain ⟨ad245, A245_0, c245_0, e245, hx245_0, hl245_0, hi245_0⟩ := at_L4 HR0.out x8_1 p245 q245
                                        obtain rfl : ad244 = ad245 := (by injection e245)
                                        replace hx245_0 := (HB.out.cell (World.block_lt_of_cell? w _ hx245_0)).trans hx245_0
                                        have HR245_0 := Aside0.mk hi245_0
                                        have HC245_0 := Aside0.mk hl245_0
                                        clear hi245_0 hl245_0
                                        replace p245 := eq_true p245
                                        replace q245 := eq_true q245
                                        have ea_ := Option.some.inj (hx244_0.symm.trans hx245_0)
                                        injection ea_ with ea_ en_ ec_
                                        subst ea_
                                        subst ec_
                                        clear en_
                                        have p246 : 0 ≤ (x9_3 : Int) := of_decide_eq_true (by first | (with_reducible assumption) | assumption)
                                        have q246 : x9_3 < ((rd_L4 l0 x8_1).length : Int) := of_decide_eq_true (by first | (with_reducible assumption) | assumption)
                                        obtain ⟨ad246, e246, hx246_0⟩ := Kd.at_string HR245_0.out x9_3 p246 q246
                                        cases e246
                                        replace hx246_0 := (HB.out.cell (World.block_lt_of_cell? w _ hx246_0)).trans hx246_0
                                        replace p246 := eq_true p246
                                        replace q246 := eq_true q246
                                        have hcz21_0 : wr.cell? ⟨gb242, 0, none⟩ = some (.string a2_0) := (blk_cell BK242.out 0).trans rfl
                                        have hcz21_1 : wr.cell? ⟨gb242, 1, none⟩ = some (.string a2_1) := (blk_cell BK242.out 1).trans rfl
                                        have hfz21_0 := blk_frozen BK242.out 0
                                        have hfz21_1 := blk_frozen BK242.out 1
                                        have p247 : 0 ≤ (x8_1 : Int) := of_decide_eq_true (by first | (with_reducible assumption) | assumption)
                                        have q247 : x8_1 < (l0.length : Int) := of_decide_eq_true (by first | (with_reducible assumption) | assumption)
                                        obtain ⟨ad247, A247_0, c247_0, e247, hx247_0, hl247_0, hi247_0⟩ := at_L4 HR0.out x8_1 p247 q247
                                        obtain rfl : ad244 = ad247 := (by injection e247)
                                        replace hx247_0 := (HB.out.cell (World.block_lt_of_cell? w _ hx247_0)).trans hx247_0
                                        have HR247_0 := Aside0.mk hi247_0
                                        have HC247_0 := Aside0.mk hl247_0
                                        clear hi247_0 hl247_0
                                        replace p247 := eq_true p247
                                        replace q247 := eq_true q247
                                        have ea_ := Option.some.inj (hx244_0.symm.trans hx247_0)
                                        injection ea_ with ea_ en_ ec_
                                        subst ea_
                                        subst ec_
                                        clear en_
                                        have p248 : 0 ≤ ((ji17) : Int) := of_decide_eq_true (by first | (with_reducible assumption) | assumption)
                                        have q248 : (ji17) < ((rd_L4 l0 x8_1).length : Int) := of_decide_eq_true (by first | (with_reducible assumption) | assumption)
                                        obtain ⟨ad248, e248, hx248_0⟩ := Kd.at_string HR247_0.out (ji17) p248 q248
                                        cases e248
                                        replace hx248_0 := (HB.out.cell (World.block_lt_of_cell? w _ hx248_0)).trans hx248_0
                                        replace p248 := eq_true p248
                                        replace q248 := eq_true q248
                                        have p249 : 0 ≤ (x8_1 : Int) := of_decide_eq_true (by first | (with_reducible assumption) | assumption)
                                        have q249 : x8_1 < (l1.length : Int) := of_decide_eq_true (by first | (with_reducible assumption) | assumption)
                                        obtain ⟨ad249, e249, hx249_0⟩ := Kd.at_int HR1.out x8_1 p249 q249
                                        obtain rfl : ad243 = ad249 := (by injection e249)
                                        replace hx249_0 := (HB.out.cell (World.block_lt_of_cell? w _ hx249_0)).trans hx249_0
                                        replace p249 := eq_true p249
                                        replace q249 := eq_true q249
                                        go_wp2
                                        repeat (go_quiet (fail); try go_wp2)
                                        go_roundg k3
                                        case measure => have := HK1.out; have := HJ4.out; have := HK3.out; omega
                                        case rel => exact ⟨(wrap64 (x7_3 + (rd l1 x8_1))), (ji17), (by first | rfl | (simp; done) | (simp [*]; done)), (by first | rfl | (simp; done) | (simp only [← hji17] <;> (first | rfl | simp)) | (simp [*]; done)), H', ⟨by have := HK1.out; have := HJ4.out; have := HK3.out; omega⟩, ⟨by (with_reducible repeat (first | refine blk_drewN ?_ _ | refine blk_drew ?_ | refine blk_alloc ?_ _)); exact BK242.out⟩, ⟨by repeat (first | (with_reducible first | exact HB.out | apply below_alloc | apply pw_below_drewN | apply below_drew1 | refine below_set ?_ GE242.out) | exact HB.out)⟩⟩
                                      · rw [if_neg c20] at H
                                        exact absurd H (by simp)
                                    · rw [if_neg c19] at H
                                      have c19b0 : ((rdOf ByteArray.empty (rd_L4 l0 x8_1) (ji17)).toList == a2_1.toList) = false := beq_eq_false_iff_ne.mpr c19
                                      have c19b1 : ((rdOf ByteArray.empty (rd_L4 l0 x8_1) (ji17)).toList != a2_1.toList) = true := bne_iff_ne.mpr c19
                                      have H' := Aside0.mk H
                                      clear H
                                      have p244 : 0 ≤ (x8_1 : Int) := of_decide_eq_true (by first | (with_reducible assumption) | assumption)
                                      have q244 : x8_1 < (l0.length : Int) := of_decide_eq_true (by first | (with_reducible assumption) | assumption)
                                      obtain ⟨ad244, A244_0, c244_0, e244, hx244_0, hl244_0, hi244_0⟩ := at_L4 HR0.out x8_1 p244 q244
                                      cases e244
                                      replace hx244_0 := (HB.out.cell (World.block_lt_of_cell? w _ hx244_0)).trans hx244_0
                                      have HR244_0 := Aside0.mk hi244_0
                                      have HC244_0 := Aside0.mk hl244_0
                                      clear hi244_0 hl244_0
                                      replace p244 := eq_true p244
                                      replace q244 := eq_true q244
                                      have p245 : 0 ≤ (x8_1 : Int) := of_decide_eq_true (by first | (with_reducible assumption) | assumption)
                                      have q245 : x8_1 < (l0.length : Int) := of_decide_eq_true (by first | (with_reducible assumption) | assumption)
                                      obtain ⟨ad245, A245_0, c245_0, e245, hx245_0, hl245_0, hi245_0⟩ := at_L4 HR0.out x8_1 p245 q245
                                      obtain rfl : ad244 = ad245 := (by injection e245)
                                      replace hx245_0 := (HB.out.cell (World.block_lt_of_cell? w _ hx245_0)).trans hx245_0
                                      have HR245_0 := Aside0.mk hi245_0
                                      have HC245_0 := Aside0.mk hl245_0
                                      clear hi245_0 hl245_0
                                      replace p245 := eq_true p245
                                      replace q245 := eq_true q245
                                      have ea_ := Option.some.inj (hx244_0.symm.trans hx245_0)
                                      injection ea_ with ea_ en_ ec_
                                      subst ea_
                                      subst ec_
                                      clear en_
                                      have p246 : 0 ≤ (x9_3 : Int) := of_decide_eq_true (by first | (with_reducible assumption) | assumption)
                                      have q246 : x9_3 < ((rd_L4 l0 x8_1).length : Int) := of_decide_eq_true (by first | (with_reducible assumption) | assumption)
                                      obtain ⟨ad246, e246, hx246_0⟩ := Kd.at_string HR245_0.out x9_3 p246 q246
                                      cases e246
                                      replace hx246_0 := (HB.out.cell (World.block_lt_of_cell? w _ hx246_0)).trans hx246_0
                                      replace p246 := eq_true p246
                                      replace q246 := eq_true q246
                                      have hcz22_0 : wr.cell? ⟨gb242, 0, none⟩ = some (.string a2_0) := (blk_cell BK242.out 0).trans rfl
                                      have hcz22_1 : wr.cell? ⟨gb242, 1, none⟩ = some (.string a2_1) := (blk_cell BK242.out 1).trans rfl
                                      have hfz22_0 := blk_frozen BK242.out 0
                                      have hfz22_1 := blk_frozen BK242.out 1
                                      have p247 : 0 ≤ (x8_1 : Int) := of_decide_eq_true (by first | (with_reducible assumption) | assumption)
                                      have q247 : x8_1 < (l0.length : Int) := of_decide_eq_true (by first | (with_reducible assumption) | assumption)
                                      obtain ⟨ad247, A247_0, c247_0, e247, hx247_0, hl247_0, hi247_0⟩ := at_L4 HR0.out x8_1 p247 q247
                                      obtain rfl : ad244 = ad247 := (by injection e247)
                                      replace hx247_0 := (HB.out.cell (World.block_lt_of_cell? w _ hx247_0)).trans hx247_0
                                      have HR247_0 := Aside0.mk hi247_0
                                      have HC247_0 := Aside0.mk hl247_0
                                      clear hi247_0 hl247_0
                                      replace p247 := eq_true p247
                                      replace q247 := eq_true q247
                                      have ea_ := Option.some.inj (hx244_0.symm.trans hx247_0)
                                      injection ea_ with ea_ en_ ec_
                                      subst ea_
                                      subst ec_
                                      clear en_
                                      have p248 : 0 ≤ ((ji17) : Int) := of_decide_eq_true (by first | (with_reducible assumption) | assumption)
                                      have q248 : (ji17) < ((rd_L4 l0 x8_1).length : Int) := of_decide_eq_true (by first | (with_reducible assumption) | assumption)
                                      obtain ⟨ad248, e248, hx248_0⟩ := Kd.at_string HR247_0.out (ji17) p248 q248
                                      cases e248
                                      replace hx248_0 := (HB.out.cell (World.block_lt_of_cell? w _ hx248_0)).trans hx248_0
                                      replace p248 := eq_true p248
                                      replace q248 := eq_true q248
                                      go_wp2
                                      repeat (go_quiet (fail); try go_wp2)
                                      go_roundg k3
                                      case measure => have := HK1.out; have := HJ4.out; have := HK3.out; omega
                                      case rel => exact ⟨(x7_3), (ji17), (by first | rfl | (simp; done) | (simp [*]; done)), (by first | rfl | (simp; done) | (simp only [← hji17] <;> (first | rfl | simp)) | (simp [*]; done)), H', ⟨by have := HK1.out; have := HJ4.out; have := HK3.out; omega⟩, ⟨by (with_reducible repeat (first | refine blk_drewN ?_ _ | refine blk_drew ?_ | refine blk_alloc ?_ _)); exact BK242.out⟩, ⟨by repeat (first | (with_reducible first | exact HB.out | apply below_alloc | apply pw_below_drewN | apply below_drew1 | refine below_set ?_ GE242.out) | exact HB.out)⟩⟩
                                  · rw [if_neg c18] at H
                                    exact absurd H (by simp)
                                · rw [if_neg c16] at H
                                  have c16b0 : ((rdOf ByteArray.empty (rd_L4 l0 x8_1) x9_3).toList == a2_0.toList) = false := beq_eq_false_iff_ne.mpr c16
                                  have c16b1 : ((rdOf ByteArray.empty (rd_L4 l0 x8_1) x9_3).toList != a2_0.toList) = true := bne_iff_ne.mpr c16
                                  have H' := Aside0.mk H
                                  clear H
                                  have p244 : 0 ≤ (x8_1 : Int) := of_decide_eq_true (by first | (with_reducible assumption) | assumption)
                                  have q244 : x8_1 < (l0.length : Int) := of_decide_eq_true (by first | (with_reducible assumption) | assumption)
                                  obtain ⟨ad244, A244_0, c244_0, e244, hx244_0, hl244_0, hi244_0⟩ := at_L4 HR0.out x8_1 p244 q244
                                  cases e244
                                  replace hx244_0 := (HB.out.cell (World.block_lt_of_cell? w _ hx244_0)).trans hx244_0
                                  have HR244_0 := Aside0.mk hi244_0
                                  have HC244_0 := Aside0.mk hl244_0
                                  clear hi244_0 hl244_0
                                  replace p244 := eq_true p244
                                  replace q244 := eq_true q244
                                  have p245 : 0 ≤ (x8_1 : Int) := of_decide_eq_true (by first | (with_reducible assumption) | assumption)
                                  have q245 : x8_1 < (l0.length : Int) := of_decide_eq_true (by first | (with_reducible assumption) | assumption)
                                  obtain ⟨ad245, A245_0, c245_0, e245, hx245_0, hl245_0, hi245_0⟩ := at_L4 HR0.out x8_1 p245 q245
                                  obtain rfl : ad244 = ad245 := (by injection e245)
                                  replace hx245_0 := (HB.out.cell (World.block_lt_of_cell? w _ hx245_0)).trans hx245_0
                                  have HR245_0 := Aside0.mk hi245_0
                                  have HC245_0 := Aside0.mk hl245_0
                                  clear hi245_0 hl245_0
                                  replace p245 := eq_true p245
                                  replace q245 := eq_true q245
                                  have ea_ := Option.some.inj (hx244_0.symm.trans hx245_0)
                                  injection ea_ with ea_ en_ ec_
                                  subst ea_
                                  subst ec_
                                  clear en_
                                  have p246 : 0 ≤ (x9_3 : Int) := of_decide_eq_true (by first | (with_reducible assumption) | assumption)
                                  have q246 : x9_3 < ((rd_L4 l0 x8_1).length : Int) := of_decide_eq_true (by first | (with_reducible assumption) | assumption)
                                  obtain ⟨ad246, e246, hx246_0⟩ := Kd.at_string HR245_0.out x9_3 p246 q246
                                  cases e246
                                  replace hx246_0 := (HB.out.cell (World.block_lt_of_cell? w _ hx246_0)).trans hx246_0
                                  replace p246 := eq_true p246
                                  replace q246 := eq_true q246
                                  have hcz23_0 : wr.cell? ⟨gb242, 0, none⟩ = some (.string a2_0) := (blk_cell BK242.out 0).trans rfl
                                  have hcz23_1 : wr.cell? ⟨gb242, 1, none⟩ = some (.string a2_1) := (blk_cell BK242.out 1).trans rfl
                                  have hfz23_0 := blk_frozen BK242.out 0
                                  have hfz23_1 := blk_frozen BK242.out 1
                                  go_wp2
                                  repeat (go_quiet (fail); try go_wp2)
                                  go_roundg k3
                                  case measure => have := HK1.out; have := HJ4.out; have := HK3.out; omega
                                  case rel => exact ⟨(x7_3), (wrap64 (x9_3 + 1)), (by first | rfl | (simp; done) | (simp [*]; done)), (by first | rfl | (simp; done) | (simp [*]; done)), H', ⟨by have := HK1.out; have := HJ4.out; have := HK3.out; omega⟩, ⟨by (with_reducible repeat (first | refine blk_drewN ?_ _ | refine blk_drew ?_ | refine blk_alloc ?_ _)); exact BK242.out⟩, ⟨by repeat (first | (with_reducible first | exact HB.out | apply below_alloc | apply pw_below_drewN | apply below_drew1 | refine below_set ?_ GE242.out) | exact HB.out)⟩⟩
                              · rw [if_neg c15] at H
                                exact absurd H (by simp)
                            · rw [if_neg c14] at H
                              exact absurd H (by simp)
                          · rw [if_neg c13] at H
                            have c13b0 : decide ((wrap64 (x9_3 + 1)) < ((rd_L4 l0 x8_1).length : Int)) = false := decide_eq_false c13
                            clear c13
                            have H' := Aside0.mk H
                            clear H
                            have p244 : 0 ≤ (x8_1 : Int) := of_decide_eq_true (by first | (with_reducible assumption) | assumption)
                            have q244 : x8_1 < (l0.length : Int) := of_decide_eq_true (by first | (with_reducible assumption) | assumption)
                            obtain ⟨ad244, A244_0, c244_0, e244, hx244_0, hl244_0, hi244_0⟩ := at_L4 HR0.out x8_1 p244 q244
                            cases e244
                            replace hx244_0 := (HB.out.cell (World.block_lt_of_cell? w _ hx244_0)).trans hx244_0
                            have HR244_0 := Aside0.mk hi244_0
                            have HC244_0 := Aside0.mk hl244_0
                            clear hi244_0 hl244_0
                            replace p244 := eq_true p244
                            replace q244 := eq_true q244
                            go_wp2
                            repeat (go_quiet (fail); try go_wp2)
                            go_roundg k3
                            case measure => have := HK1.out; have := HJ4.out; have := HK3.out; omega
                            case rel => exact ⟨(x7_3), (wrap64 (x8_1 + 1)), (by first | rfl | (simp; done) | (simp [*]; done)), (by first | rfl | (simp; done) | (simp [*]; done)), H', ⟨by have := HK1.out; have := HJ4.out; have := HK3.out; omega⟩, ⟨by (with_reducible repeat (first | refine blk_drewN ?_ _ | refine blk_drew ?_ | refine blk_alloc ?_ _)); exact BK242.out⟩, ⟨by repeat (first | (with_reducible first | exact HB.out | apply below_alloc | apply pw_below_drewN | apply below_drew1 | refine below_set ?_ GE242.out) | exact HB.out)⟩⟩
                        · rw [if_neg c12] at H
                          exact absurd H (by simp)
                      · rw [if_neg c11] at H
                        exact absurd H (by simp)
              · rw [if_neg c9] at H
                exact absurd H (by simp)
            · rw [if_neg c8] at H
              exact absurd H (by simp)
          · replace c7 := Bool.eq_false_iff.mpr c7
            subst c7
            have H1 : (some x7_1) = some r := by rw [if_neg (show ¬ (false = true) by decide)] at H; exact H
            clear H
            have H := H1
            clear H1
            obtain rfl := Option.some.inj H
            go_wp2
            repeat (go_quiet (fail); try go_wp2)
            go_ret
            exact ⟨by first | rfl | (simp [errW_none, errW_some] <;> rfl) | (simp [*, errW_none, errW_some] <;> rfl), by repeat (first | (with_reducible first | exact HB.out | apply below_alloc | apply pw_below_drewN | apply below_drew1 | refine below_set ?_ GE242.out) | exact HB.out)⟩

end Go.Proofs.Ytbfjlfbahjmibaa.Pr
