-- Written by wip/pr.py (over the print of the kit) out of the translation.
import Derived.Test.YtbfjlfbahjmibaaPr0
namespace Go.Proofs.Ytbfjlfbahjmibaa.Pr
open Go.RowKit Go.Proofs.YtbfjlfbahjmibaaW.PrintWords Go.Proofs.YtbfjlfbahjmibaaW.PrintLast Go.Proofs.YtbfjlfbahjmibaaW.PrintMore
attribute [local go_sem] max2_int min2_int max_two min_two max_three min_three max_four min_four   -- for this text's walks alone
set_option linter.unusedVariables false
set_option linter.unusedSimpArgs false

/-! ### gluepotref16_Right: function 24 -/
mutual
def gluepotref16_Right.l0 : Nat → List (S45) → List ByteArray → Int → Option (Bool)
  | 0, _, _, _ => none
  | k + 1, x0, x3, x4 => if x4 < (x0.length : Int) then (gluepotref16_Right.l1 k x0 x3 x4 0) else (some true)
def gluepotref16_Right.l1 : Nat → List (S45) → List ByteArray → Int → Int → Option (Bool)
  | 0, _, _, _, _ => none
  | k + 1, x0, x3, x4, x5 => if x5 < 2 then (if 0 ≤ x4 then (if x4 < (x0.length : Int) then (if x5 = 1 then (gluepotref16_Right.j2 k x0 x3 x4 x5 ((rd_T45 x0 x4).f1)) else (gluepotref16_Right.j2 k x0 x3 x4 x5 ((rd_T45 x0 x4).f0))) else (none)) else (none)) else (if 0 ≤ x4 then (if x4 < (x0.length : Int) then (if ((rd_T45 x0 x4).f0).size + ((rd_T45 x0 x4).f1).size ≤ 9223372036854775807 then (gluepotref16_Right.l3 k x0 x3 x4 (((rd_T45 x0 x4).f0) ++ ((rd_T45 x0 x4).f1)) 0) else (none)) else (none)) else (none))
def gluepotref16_Right.j2 : Nat → List (S45) → List ByteArray → Int → Int → ByteArray → Option (Bool)
  | 0, _, _, _, _, _ => none
  | k + 1, x0, x3, x4, x5, x6 => gluepotref16_Right.l2 k x0 x3 x4 x5 x6 ((x6.size : Int) == 1) 0
def gluepotref16_Right.l2 : Nat → List (S45) → List ByteArray → Int → Int → ByteArray → Bool → Int → Option (Bool)
  | 0, _, _, _, _, _, _, _ => none
  | k + 1, x0, x3, x4, x5, x6, x7, x8 => if x8 < (x3.length : Int) then (if x7 = true then (gluepotref16_Right.l1 k x0 x3 x4 (wrap64 (x5 + 1))) else (if 0 ≤ x8 then (gluepotref16_Right.l2 k x0 x3 x4 x5 x6 ((rdOf ByteArray.empty x3 x8).toList == x6.toList) (wrap64 (x8 + 1))) else (none))) else (if x7 = true then (gluepotref16_Right.l1 k x0 x3 x4 (wrap64 (x5 + 1))) else (some false))
def gluepotref16_Right.l3 : Nat → List (S45) → List ByteArray → Int → ByteArray → Int → Option (Bool)
  | 0, _, _, _, _, _ => none
  | k + 1, x0, x3, x4, x9, x10 => if x10 < (x3.length : Int) then (if 0 ≤ x10 then (if (rdOf ByteArray.empty x3 x10).toList = x9.toList then (some false) else (gluepotref16_Right.l3 k x0 x3 x4 x9 (wrap64 (x10 + 1)))) else (none)) else (if x3.length < 8796093022208 then (gluepotref16_Right.l0 k x0 (x3 ++ [x9]) (wrap64 (x4 + 1))) else (none))
end
def gluepotref16_Right.f (k : Nat) (l0 : List (S45)) : Option (Bool) := gluepotref16_Right.l0 k l0 ([] : List ByteArray) 0
theorem gluepotref16_Right.mono_l : ∀ k, (∀ y0 y1 y2, LeO (gluepotref16_Right.l0 k y0 y1 y2) (gluepotref16_Right.l0 (k + 1) y0 y1 y2)) ∧ (∀ y0 y1 y2 y3, LeO (gluepotref16_Right.l1 k y0 y1 y2 y3) (gluepotref16_Right.l1 (k + 1) y0 y1 y2 y3)) ∧ (∀ y0 y1 y2 y3 y4, LeO (gluepotref16_Right.j2 k y0 y1 y2 y3 y4) (gluepotref16_Right.j2 (k + 1) y0 y1 y2 y3 y4)) ∧ (∀ y0 y1 y2 y3 y4 y5 y6, LeO (gluepotref16_Right.l2 k y0 y1 y2 y3 y4 y5 y6) (gluepotref16_Right.l2 (k + 1) y0 y1 y2 y3 y4 y5 y6)) ∧ (∀ y0 y1 y2 y3 y4, LeO (gluepotref16_Right.l3 k y0 y1 y2 y3 y4) (gluepotref16_Right.l3 (k + 1) y0 y1 y2 y3 y4))
  | 0 => ⟨fun _ _ _ r h => by simp [gluepotref16_Right.l0] at h, fun _ _ _ _ r h => by simp [gluepotref16_Right.l1] at h, fun _ _ _ _ _ r h => by simp [gluepotref16_Right.j2] at h, fun _ _ _ _ _ _ _ r h => by simp [gluepotref16_Right.l2] at h, fun _ _ _ _ _ r h => by simp [gluepotref16_Right.l3] at h⟩
  | k + 1 => by
    obtain ⟨ih0, ih1, ih2, ih3, ih4⟩ := gluepotref16_Right.mono_l k
    refine ⟨?_, ?_, ?_, ?_, ?_⟩
    · intro y0 y1 y2
      unfold gluepotref16_Right.l0
      repeat' first
      | (with_reducible exact ih0 _ _ _)
      | (with_reducible exact ih1 _ _ _ _)
      | (with_reducible exact ih2 _ _ _ _ _)
      | (with_reducible exact ih3 _ _ _ _ _ _ _)
      | (with_reducible exact ih4 _ _ _ _ _)
      | (with_reducible exact LeO.refl _)
      | (with_reducible exact LeO.none _)
      | (with_reducible refine LeO.ite ?_ ?_)
      | (with_reducible refine LeO.bind ?_ (fun _ => ?_))
      | exact ih0 _ _ _
      | exact ih1 _ _ _ _
      | exact ih2 _ _ _ _ _
      | exact ih3 _ _ _ _ _ _ _
      | exact ih4 _ _ _ _ _
      | exact LeO.none _
      | refine LeO.ite ?_ ?_
      | refine LeO.bind ?_ (fun _ => ?_)
    · intro y0 y1 y2 y3
      unfold gluepotref16_Right.l1
      repeat' first
      | (with_reducible exact ih0 _ _ _)
      | (with_reducible exact ih1 _ _ _ _)
      | (with_reducible exact ih2 _ _ _ _ _)
      | (with_reducible exact ih3 _ _ _ _ _ _ _)
      | (with_reducible exact ih4 _ _ _ _ _)
      | (with_reducible exact LeO.refl _)
      | (with_reducible exact LeO.none _)
      | (with_reducible refine LeO.ite ?_ ?_)
      | (with_reducible refine LeO.bind ?_ (fun _ => ?_))
      | exact ih0 _ _ _
      | exact ih1 _ _ _ _
      | exact ih2 _ _ _ _ _
      | exact ih3 _ _ _ _ _ _ _
      | exact ih4 _ _ _ _ _
      | exact LeO.none _
      | refine LeO.ite ?_ ?_
      | refine LeO.bind ?_ (fun _ => ?_)
    · intro y0 y1 y2 y3 y4
      unfold gluepotref16_Right.j2
      repeat' first
      | (with_reducible exact ih0 _ _ _)
      | (with_reducible exact ih1 _ _ _ _)
      | (with_reducible exact ih2 _ _ _ _ _)
      | (with_reducible exact ih3 _ _ _ _ _ _ _)
      | (with_reducible exact ih4 _ _ _ _ _)
      | (with_reducible exact LeO.refl _)
      | (with_reducible exact LeO.none _)
      | (with_reducible refine LeO.ite ?_ ?_)
      | (with_reducible refine LeO.bind ?_ (fun _ => ?_))
      | exact ih0 _ _ _
      | exact ih1 _ _ _ _
      | exact ih2 _ _ _ _ _
      | exact ih3 _ _ _ _ _ _ _
      | exact ih4 _ _ _ _ _
      | exact LeO.none _
      | refine LeO.ite ?_ ?_
      | refine LeO.bind ?_ (fun _ => ?_)
    · intro y0 y1 y2 y3 y4 y5 y6
      unfold gluepotref16_Right.l2
      repeat' first
      | (with_reducible exact ih0 _ _ _)
      | (with_reducible exact ih1 _ _ _ _)
      | (with_reducible exact ih2 _ _ _ _ _)
      | (with_reducible exact ih3 _ _ _ _ _ _ _)
      | (with_reducible exact ih4 _ _ _ _ _)
      | (with_reducible exact LeO.refl _)
      | (with_reducible exact LeO.none _)
      | (with_reducible refine LeO.ite ?_ ?_)
      | (with_reducible refine LeO.bind ?_ (fun _ => ?_))
      | exact ih0 _ _ _
      | exact ih1 _ _ _ _
      | exact ih2 _ _ _ _ _
      | exact ih3 _ _ _ _ _ _ _
      | exact ih4 _ _ _ _ _
      | exact LeO.none _
      | refine LeO.ite ?_ ?_
      | refine LeO.bind ?_ (fun _ => ?_)
    · intro y0 y1 y2 y3 y4
      unfold gluepotref16_Right.l3
      repeat' first
      | (with_reducible exact ih0 _ _ _)
      | (with_reducible exact ih1 _ _ _ _)
      | (with_reducible exact ih2 _ _ _ _ _)
      | (with_reducible exact ih3 _ _ _ _ _ _ _)
      | (with_reducible exact ih4 _ _ _ _ _)
      | (with_reducible exact LeO.refl _)
      | (with_reducible exact LeO.none _)
      | (with_reducible refine LeO.ite ?_ ?_)
      | (with_reducible refine LeO.bind ?_ (fun _ => ?_))
      | exact ih0 _ _ _
      | exact ih1 _ _ _ _
      | exact ih2 _ _ _ _ _
      | exact ih3 _ _ _ _ _ _ _
      | exact ih4 _ _ _ _ _
      | exact LeO.none _
      | refine LeO.ite ?_ ?_
      | refine LeO.bind ?_ (fun _ => ?_)
theorem gluepotref16_Right.mono : ∀ a0 k, LeO (gluepotref16_Right.f k a0) (gluepotref16_Right.f (k + 1) a0) := by
  intro a0 k
  obtain ⟨ih0, ih1, ih2, ih3, ih4⟩ := gluepotref16_Right.mono_l k
  unfold gluepotref16_Right.f
  repeat' first
      | (with_reducible exact ih0 _ _ _)
      | (with_reducible exact ih1 _ _ _ _)
      | (with_reducible exact ih2 _ _ _ _ _)
      | (with_reducible exact ih3 _ _ _ _ _ _ _)
      | (with_reducible exact ih4 _ _ _ _ _)
      | (with_reducible exact LeO.refl _)
      | (with_reducible exact LeO.none _)
      | (with_reducible refine LeO.ite ?_ ?_)
      | (with_reducible refine LeO.bind ?_ (fun _ => ?_))
      | exact ih0 _ _ _
      | exact ih1 _ _ _ _
      | exact ih2 _ _ _ _ _
      | exact ih3 _ _ _ _ _ _ _
      | exact ih4 _ _ _ _ _
      | exact LeO.none _
      | refine LeO.ite ?_ ?_
      | refine LeO.bind ?_ (fun _ => ?_)
set_option maxHeartbeats 8000000 in
set_option maxRecDepth 100000 in
theorem gluepotref16_Right.calls (k : Nat) (A0 : Option Addr) (c0 : Nat) (l0 : List (S45)) (r : Bool) (w : World) (hr0 : Kd.C k45 w A0 l0.length l0) (hc0 : l0.length ≤ c0) (h : gluepotref16_Right.f k l0 = some r) :
    Calls Try.prog 24 #[.slice A0 l0.length c0] w fun e w' => e = .returned (.bool r) ∧ Below w.heap.size w w' := by
  have HR0 := Aside0.mk hr0
  have HC0 := Aside0.mk hc0
  clear hr0 hc0
  have HB := Aside0.mk (Below.refl w.heap.size w)
  have H : (gluepotref16_Right.l0 k l0 ([] : List ByteArray) 0) = some r := h
  clear h
  have H' := Aside0.mk H
  clear H
  go_enter Try.func24, Try.ntmps24
  go_wp2
  repeat (go_quiet (fail); try go_wp2)
  go_loopg [3, 4] k (fun kq v3 v4 w' => ∃ (x3_1 : List ByteArray) (x4_1 : Int), v4 = .int .i64 x4_1 ∧ Aside0 (gluepotref16_Right.l0 kq l0 x3_1 x4_1 = some r) ∧ Aside0 (kq ≤ k) ∧ Aside0 (Kd.R Kd.string 9 w' w.heap.size (fun _ => True) v3 x3_1) ∧ Aside0 (Below w.heap.size w w'))
  case atStart => exact ⟨(([] : List ByteArray)), (0), (by first | rfl | (simp; done) | (simp [*]; done)), H', ⟨Nat.le_refl _⟩, ⟨by first | exact Kd.R_nil _ _ _ _ _ | exact Kd.N_nil _ _ _ _ _ | exact Kd.V_nil _ _ _ _ _ | exact Kd.Q_nil _ _ _ _ _ | exact Kd.S_nil _ _ _ _ _⟩, ⟨by repeat (first | (with_reducible first | exact HB.out | apply below_alloc | apply pw_below_drewN | apply below_drew1) | exact HB.out)⟩⟩
  case round =>
    clear H'
    obtain ⟨x3_1, x4_1, rfl, HA, HK1, HO_3, HB⟩ := hrel
    cases gk with
    | zero => exact absurd HA.out (by simp [gluepotref16_Right.l0])
    | succ k1 =>
      have H := HA.out
      clear HA
      simp only [gluepotref16_Right.l0] at H
      by_cases c2 : x4_1 < (l0.length : Int)
      · rw [if_pos c2] at H
        have c2b0 : decide (x4_1 < (l0.length : Int)) = true := decide_eq_true c2
        clear c2
        have H' := Aside0.mk H
        clear H
        go_wp2
        repeat (go_quiet (fail); try go_wp2)
        go_loopg [5] k1 (fun kq v5 w' => ∃ (x5_2 : Int), v5 = .int .i64 x5_2 ∧ Aside0 (gluepotref16_Right.l1 kq l0 x3_1 x4_1 x5_2 = some r) ∧ Aside0 (kq ≤ k1) ∧ Aside0 (Kd.R Kd.string 9 w' w.heap.size (fun _ => True) u3 x3_1) ∧ Aside0 (Below w.heap.size w w'))
        case atStart => exact ⟨(0), (by first | rfl | (simp; done) | (simp [*]; done)), H', ⟨Nat.le_refl _⟩, ⟨by (with_reducible repeat (first | apply Kd.R_alloc | apply Kd.R_drewN | apply Kd.R_drew)); exact HO_3.out⟩, ⟨by repeat (first | (with_reducible first | exact HB.out | apply below_alloc | apply pw_below_drewN | apply below_drew1) | exact HB.out)⟩⟩
        case round =>
          clear H'
          try clear c2
          try clear c2b0
          try clear p2
          obtain ⟨x5_2, rfl, HA, HK2, HO_3, HB⟩ := hrel
          cases gk with
          | zero => exact absurd HA.out (by simp [gluepotref16_Right.l1])
          | succ k2 =>
            have H := HA.out
            clear HA
            simp only [gluepotref16_Right.l1] at H
            by_cases c3 : x5_2 < 2
            · rw [if_pos c3] at H
              have c3b0 : decide (x5_2 < 2) = true := decide_eq_true c3
              clear c3
              by_cases c4 : 0 ≤ x4_1
              · rw [if_pos c4] at H
                have c4b0 : decide (0 ≤ x4_1) = true := decide_eq_true c4
                clear c4
                by_cases c5 : x4_1 < (l0.length : Int)
                · rw [if_pos c5] at H
                  have c5b0 : decide (x4_1 < (l0.length : Int)) = true := decide_eq_true c5
                  clear c5
                  have HC6 := Aside0.mk H
                  clear H
                  have p372 : 0 ≤ (x4_1 : Int) := of_decide_eq_true (by first | (with_reducible assumption) | assumption)
                  have q372 : x4_1 < (l0.length : Int) := of_decide_eq_true (by first | (with_reducible assumption) | assumption)
                  obtain ⟨ad372, e372, hx372_0, hx372_1⟩ := at_T45 HR0.out x4_1 p372 q372
                  cases e372
                  replace hx372_0 := (HB.out.cell (World.block_lt_of_cell? w _ hx372_0)).trans hx372_0
                  replace hx372_1 := (HB.out.cell (World.block_lt_of_cell? w _ hx372_1)).trans hx372_1
                  replace p372 := eq_true p372
                  replace q372 := eq_true q372
                  go_upto_if 27 with (fail)
                  repeat (go_quiet (fail); go_upto_if 27 with (fail))
                  go_cut [6] (fun v6 wc => ∃ (kq : Nat) (x6_5 : ByteArray), v6 = .string x6_5 ∧ Aside0 (gluepotref16_Right.j2 kq l0 x3_1 x4_1 x5_2 x6_5 = some r) ∧ Aside0 (kq ≤ k2) ∧ Aside0 (Kd.R Kd.string 9 wc w.heap.size (fun _ => True) u3 x3_1) ∧ Aside0 (Below w.heap.size w wc))
                  case first =>
                    have H := HC6.out
                    clear HC6
                    by_cases c7 : x5_2 = 1
                    · rw [if_pos c7] at H
                      have c7b0 : (x5_2 == 1) = true := beq_iff_eq.mpr c7
                      have c7b1 : (x5_2 != 1) = false := bne_eq_false_iff_eq.mpr c7
                      clear c7
                      (first | rw [c7b0] | (simp only [i64_w, i32_w]; rw [c7b0]) | skip)
                      have H' := Aside0.mk H
                      clear H
                      have p373 : 0 ≤ (x4_1 : Int) := of_decide_eq_true (by first | (with_reducible assumption) | assumption)
                      have q373 : x4_1 < (l0.length : Int) := of_decide_eq_true (by first | (with_reducible assumption) | assumption)
                      obtain ⟨ad373, e373, hx373_0, hx373_1⟩ := at_T45 HR0.out x4_1 p373 q373
                      obtain rfl : ad372 = ad373 := (by injection e373)
                      replace hx373_0 := (HB.out.cell (World.block_lt_of_cell? w _ hx373_0)).trans hx373_0
                      replace hx373_1 := (HB.out.cell (World.block_lt_of_cell? w _ hx373_1)).trans hx373_1
                      replace p373 := eq_true p373
                      replace q373 := eq_true q373
                      go_wp2
                      repeat (go_quiet (fail); try go_wp2)
                      go_meet
                      case rel => exact ⟨_, ((rd_T45 l0 x4_1).f1), (by first | rfl | (simp; done) | (simp [*]; done)), H', ⟨by have := HK1.out; have := HK2.out; first | omega | exact Nat.le_refl _⟩, ⟨by (with_reducible repeat (first | apply Kd.R_alloc | apply Kd.R_drewN | apply Kd.R_drew)); exact HO_3.out⟩, ⟨by repeat (first | (with_reducible first | exact HB.out | apply below_alloc | apply pw_below_drewN | apply below_drew1) | exact HB.out)⟩⟩
                    · rw [if_neg c7] at H
                      have c7b0 : (x5_2 == 1) = false := beq_eq_false_iff_ne.mpr c7
                      have c7b1 : (x5_2 != 1) = true := bne_iff_ne.mpr c7
                      (first | rw [c7b0] | (simp only [i64_w, i32_w]; rw [c7b0]) | skip)
                      have H' := Aside0.mk H
                      clear H
                      go_wp2
                      repeat (go_quiet (fail); try go_wp2)
                      go_meet
                      case rel => exact ⟨_, ((rd_T45 l0 x4_1).f0), (by first | rfl | (simp; done) | (simp [*]; done)), H', ⟨by have := HK1.out; have := HK2.out; first | omega | exact Nat.le_refl _⟩, ⟨by (with_reducible repeat (first | apply Kd.R_alloc | apply Kd.R_drewN | apply Kd.R_drew)); exact HO_3.out⟩, ⟨by repeat (first | (with_reducible first | exact HB.out | apply below_alloc | apply pw_below_drewN | apply below_drew1) | exact HB.out)⟩⟩
                  case rest =>
                    clear HC6
                    try clear c2
                    try clear c2b0
                    try clear p2
                    try clear c3
                    try clear c3b0
                    try clear p3
                    try clear q3
                    try clear hx3
                    try clear c4
                    try clear c4b0
                    try clear c5
                    try clear c5b0
                    try clear c7
                    try clear c7b0
                    try clear c7b1
                    try clear hx372_0
                    try clear hx372_1
                    try clear hx373_0
                    try clear hx373_1
                    try clear p2
                    try clear p372
                    try clear p373
                    try clear q372
                    try clear q373
                    obtain ⟨kq, x6_5, rfl, HA, HJ5, HO_3, HB⟩ := hcut
                    cases kq with
                    | zero => exact absurd HA.out (by simp [gluepotref16_Right.j2])
                    | succ kj5 =>
                      have H := HA.out
                      clear HA
                      simp only [gluepotref16_Right.j2] at H
                      have H' := Aside0.mk H
                      clear H
                      go_wp2
                      repeat (go_quiet (fail); try go_wp2)
                      go_loopg [7, 8] kj5 (fun kq v7 v8 w' => ∃ (x7_4 : Bool) (x8_4 : Int), v7 = .bool x7_4 ∧ v8 = .int .i64 x8_4 ∧ Aside0 (gluepotref16_Right.l2 kq l0 x3_1 x4_1 x5_2 x6_5 x7_4 x8_4 = some r) ∧ Aside0 (kq ≤ kj5) ∧ Aside0 (Kd.R Kd.string 9 w' w.heap.size (fun _ => True) u3 x3_1) ∧ Aside0 (Below w.heap.size w w'))
                      case atStart => exact ⟨(((x6_5.size : Int) == 1)), (0), (by first | rfl | (simp; done) | (simp [*]; done)), (by first | rfl | (simp; done) | (simp [*]; done)), H', ⟨Nat.le_refl _⟩, ⟨by (with_reducible repeat (first | apply Kd.R_alloc | apply Kd.R_drewN | apply Kd.R_drew)); exact HO_3.out⟩, ⟨by repeat (first | (with_reducible first | exact HB.out | apply below_alloc | apply pw_below_drewN | apply below_drew1) | exact HB.out)⟩⟩
                      case round =>
                        clear H'
                        try clear c2
                        try clear c2b0
                        try clear p2
                        try clear c3
                        try clear c3b0
                        try clear p3
                        try clear q3
                        try clear hx3
                        try clear c4
                        try clear c4b0
                        try clear c5
                        try clear c5b0
                        try clear c7
                        try clear c7b0
                        try clear c7b1
                        try clear hx372_0
                        try clear hx372_1
                        try clear hx373_0
                        try clear hx373_1
                        try clear p2
                        try clear p3
                        try clear p372
                        try clear p373
                        try clear q3
                        try clear q372
                        try clear q373
                        obtain ⟨x7_4, x8_4, rfl, rfl, HA, HK4, HO_3, HB⟩ := hrel
                        cases gk with
                        | zero => exact absurd HA.out (by simp [gluepotref16_Right.l2])
                        | succ k4 =>
                          have H := HA.out
                          clear HA
                          simp only [gluepotref16_Right.l2] at H
                          by_cases c8 : x8_4 < (x3_1.length : Int)
                          · rw [if_pos c8] at H
                            have c8b0 : decide (x8_4 < (x3_1.length : Int)) = true := decide_eq_true c8
                            clear c8
                            by_cases c9 : x7_4 = true
                            · subst c9
                              have H1 : (gluepotref16_Right.l1 k4 l0 x3_1 x4_1 (wrap64 (x5_2 + 1))) = some r := by rw [if_pos rfl] at H; exact H
                              clear H
                              have H := H1
                              clear H1
                              have H' := Aside0.mk H
                              clear H
                              obtain ⟨Ao10, co10, eo10⟩ := Kd.R_slice HO_3.out
                              subst eo10
                              go_wp2
                              repeat (go_quiet (fail); try go_wp2)
                              go_roundg k4
                              case measure => have := HK1.out; have := HK2.out; have := HJ5.out; have := HK4.out; omega
                              case rel => exact ⟨(wrap64 (x5_2 + 1)), (by first | rfl | (simp; done) | (simp [*]; done)), H', ⟨by have := HK1.out; have := HK2.out; have := HJ5.out; have := HK4.out; omega⟩, ⟨by (with_reducible repeat (first | apply Kd.R_alloc | apply Kd.R_drewN | apply Kd.R_drew)); exact HO_3.out⟩, ⟨by repeat (first | (with_reducible first | exact HB.out | apply below_alloc | apply pw_below_drewN | apply below_drew1) | exact HB.out)⟩⟩
                            · replace c9 := Bool.eq_false_iff.mpr c9
                              subst c9
                              have H1 : (if 0 ≤ x8_4 then (gluepotref16_Right.l2 k4 l0 x3_1 x4_1 x5_2 x6_5 ((rdOf ByteArray.empty x3_1 x8_4).toList == x6_5.toList) (wrap64 (x8_4 + 1))) else (none)) = some r := by rw [if_neg (show ¬ (false = true) by decide)] at H; exact H
                              clear H
                              have H := H1
                              clear H1
                              by_cases c11 : 0 ≤ x8_4
                              · rw [if_pos c11] at H
                                have c11b0 : decide (0 ≤ x8_4) = true := decide_eq_true c11
                                clear c11
                                have H' := Aside0.mk H
                                clear H
                                obtain ⟨Ao12, co12, eo12⟩ := Kd.R_slice HO_3.out
                                subst eo12
                                have p374 : 0 ≤ (x8_4 : Int) := of_decide_eq_true (by first | (with_reducible assumption) | assumption)
                                have q374 : x8_4 < (x3_1.length : Int) := of_decide_eq_true (by first | (with_reducible assumption) | assumption)
                                obtain ⟨ad374, e374, hx374_0⟩ := Kd.at_string (Kd.R_reads' HO_3.out).2.2 x8_4 p374 q374
                                cases e374
                                replace p374 := eq_true p374
                                replace q374 := eq_true q374
                                go_wp2
                                repeat (go_quiet (fail); try go_wp2)
                                go_roundg k4
                                case measure => have := HK1.out; have := HK2.out; have := HJ5.out; have := HK4.out; omega
                                case rel => exact ⟨(((rdOf ByteArray.empty x3_1 x8_4).toList == x6_5.toList)), (wrap64 (x8_4 + 1)), (by first | rfl | (simp; done) | (simp [*]; done)), (by first | rfl | (simp; done) | (simp [*]; done)), H', ⟨by have := HK1.out; have := HK2.out; have := HJ5.out; have := HK4.out; omega⟩, ⟨by (with_reducible repeat (first | apply Kd.R_alloc | apply Kd.R_drewN | apply Kd.R_drew)); exact HO_3.out⟩, ⟨by repeat (first | (with_reducible first | exact HB.out | apply below_alloc | apply pw_below_drewN | apply below_drew1) | exact HB.out)⟩⟩
                              · rw [if_neg c11] at H
                                exact absurd H (by simp)
                          · rw [if_neg c8] at H
                            have c8b0 : decide (x8_4 < (x3_1.length : Int)) = false := decide_eq_false c8
                            clear c8
                            by_cases c13 : x7_4 = true
                            · subst c13
                              have H1 : (gluepotref16_Right.l1 k4 l0 x3_1 x4_1 (wrap64 (x5_2 + 1))) = some r := by rw [if_pos rfl] at H; exact H
                              clear H
                              have H := H1
                              clear H1
                              have H' := Aside0.mk H
                              clear H
                              obtain ⟨Ao14, co14, eo14⟩ := Kd.R_slice HO_3.out
                              subst eo14
                              go_wp2
                              repeat (go_quiet (fail); try go_wp2)
                              go_roundg k4
                              case measure => have := HK1.out; have := HK2.out; have := HJ5.out; have := HK4.out; omega
                              case rel => exact ⟨(wrap64 (x5_2 + 1)), (by first | rfl | (simp; done) | (simp [*]; done)), H', ⟨by have := HK1.out; have := HK2.out; have := HJ5.out; have := HK4.out; omega⟩, ⟨by (with_reducible repeat (first | apply Kd.R_alloc | apply Kd.R_drewN | apply Kd.R_drew)); exact HO_3.out⟩, ⟨by repeat (first | (with_reducible first | exact HB.out | apply below_alloc | apply pw_below_drewN | apply below_drew1) | exact HB.out)⟩⟩
                            · replace c13 := Bool.eq_false_iff.mpr c13
                              subst c13
                              have H1 : (some false) = some r := by rw [if_neg (show ¬ (false = true) by decide)] at H; exact H
                              clear H
                              have H := H1
                              clear H1
                              obtain rfl := Option.some.inj H
                              obtain ⟨Ao15, co15, eo15⟩ := Kd.R_slice HO_3.out
                              subst eo15
                              go_wp2
                              repeat (go_quiet (fail); try go_wp2)
                              go_ret
                              exact ⟨by first | rfl | (simp [errW_none, errW_some] <;> rfl) | (simp [*, errW_none, errW_some] <;> rfl), by repeat (first | (with_reducible first | exact HB.out | apply below_alloc | apply pw_below_drewN | apply below_drew1) | exact HB.out)⟩
                · rw [if_neg c5] at H
                  exact absurd H (by simp)
              · rw [if_neg c4] at H
                exact absurd H (by simp)
            · rw [if_neg c3] at H
              have c3b0 : decide (x5_2 < 2) = false := decide_eq_false c3
              clear c3
              by_cases c16 : 0 ≤ x4_1
              · rw [if_pos c16] at H
                have c16b0 : decide (0 ≤ x4_1) = true := decide_eq_true c16
                clear c16
                by_cases c17 : x4_1 < (l0.length : Int)
                · rw [if_pos c17] at H
                  have c17b0 : decide (x4_1 < (l0.length : Int)) = true := decide_eq_true c17
                  clear c17
                  by_cases c18 : ((rd_T45 l0 x4_1).f0).size + ((rd_T45 l0 x4_1).f1).size ≤ 9223372036854775807
                  · rw [if_pos c18] at H
                    have c18b0 := eq_true c18
                    have c18b1 : decide (((rd_T45 l0 x4_1).f0).size + ((rd_T45 l0 x4_1).f1).size ≤ 9223372036854775807) = true := decide_eq_true c18
                    try have c18b2 : (9223372036854775807 < ((rd_T45 l0 x4_1).f0).size + ((rd_T45 l0 x4_1).f1).size) = False := eq_false (Nat.not_lt.2 c18)
                    have H' := Aside0.mk H
                    clear H
                    have p375 : 0 ≤ (x4_1 : Int) := of_decide_eq_true (by first | (with_reducible assumption) | assumption)
                    have q375 : x4_1 < (l0.length : Int) := of_decide_eq_true (by first | (with_reducible assumption) | assumption)
                    obtain ⟨ad375, e375, hx375_0, hx375_1⟩ := at_T45 HR0.out x4_1 p375 q375
                    cases e375
                    replace hx375_0 := (HB.out.cell (World.block_lt_of_cell? w _ hx375_0)).trans hx375_0
                    replace hx375_1 := (HB.out.cell (World.block_lt_of_cell? w _ hx375_1)).trans hx375_1
                    replace p375 := eq_true p375
                    replace q375 := eq_true q375
                    have p376 : 0 ≤ (x4_1 : Int) := of_decide_eq_true (by first | (with_reducible assumption) | assumption)
                    have q376 : x4_1 < (l0.length : Int) := of_decide_eq_true (by first | (with_reducible assumption) | assumption)
                    obtain ⟨ad376, e376, hx376_0, hx376_1⟩ := at_T45 HR0.out x4_1 p376 q376
                    obtain rfl : ad375 = ad376 := (by injection e376)
                    replace hx376_0 := (HB.out.cell (World.block_lt_of_cell? w _ hx376_0)).trans hx376_0
                    replace hx376_1 := (HB.out.cell (World.block_lt_of_cell? w _ hx376_1)).trans hx376_1
                    replace p376 := eq_true p376
                    replace q376 := eq_true q376
                    go_wp2
                    repeat (go_quiet (fail); try go_wp2)
                    go_loopg [10] k2 (fun kq v10 w' => ∃ (x10_3 : Int), v10 = .int .i64 x10_3 ∧ Aside0 (gluepotref16_Right.l3 kq l0 x3_1 x4_1 (((rd_T45 l0 x4_1).f0) ++ ((rd_T45 l0 x4_1).f1)) x10_3 = some r) ∧ Aside0 (kq ≤ k2) ∧ Aside0 (Kd.R Kd.string 9 w' w.heap.size (fun _ => True) u3 x3_1) ∧ Aside0 (Below w.heap.size w w'))
                    case atStart => exact ⟨(0), (by first | rfl | (simp; done) | (simp [*]; done)), H', ⟨Nat.le_refl _⟩, ⟨by (with_reducible repeat (first | apply Kd.R_alloc | apply Kd.R_drewN | apply Kd.R_drew)); exact HO_3.out⟩, ⟨by repeat (first | (with_reducible first | exact HB.out | apply below_alloc | apply pw_below_drewN | apply below_drew1) | exact HB.out)⟩⟩
                    case round =>
                      clear H'
                      try clear c1
                      try clear c2
                      try clear c2b0
                      try clear p2
                      try clear c3
                      try clear c3b0
                      try clear p3
                      try clear q3
                      try clear hx3
                      try clear c4
                      try clear c4b0
                      try clear c5
                      try clear c5b0
                      try clear p6
                      try clear c7
                      try clear c7b0
                      try clear c7b1
                      try clear c8
                      try clear c8b0
                      try clear c9
                      try clear c11
                      try clear c11b0
                      try clear c13
                      try clear c16
                      try clear c16b0
                      try clear c17
                      try clear c17b0
                      try clear c18
                      try clear c18b0
                      try clear c18b1
                      try clear c18b2
                      try clear hx372_0
                      try clear hx372_1
                      try clear hx373_0
                      try clear hx373_1
                      try clear hx374_0
                      try clear hx375_0
                      try clear hx375_1
                      try clear hx376_0
                      try clear hx376_1
                      try clear p2
                      try clear p3
                      try clear p372
                      try clear p373
                      try clear p374
                      try clear p375
                      try clear p376
                      try clear q3
                      try clear q372
                      try clear q373
                      try clear q374
                      try clear q375
                      try clear q376
                      obtain ⟨x10_3, rfl, HA, HK3, HO_3, HB⟩ := hrel
                      cases gk with
                      | zero => exact absurd HA.out (by simp [gluepotref16_Right.l3])
                      | succ k3 =>
                        have H := HA.out
                        clear HA
                        simp only [gluepotref16_Right.l3] at H
                        by_cases c19 : x10_3 < (x3_1.length : Int)
                        · rw [if_pos c19] at H
                          have c19b0 : decide (x10_3 < (x3_1.length : Int)) = true := decide_eq_true c19
                          clear c19
                          by_cases c20 : 0 ≤ x10_3
                          · rw [if_pos c20] at H
                            have c20b0 : decide (0 ≤ x10_3) = true := decide_eq_true c20
                            clear c20
                            by_cases c21 : (rdOf ByteArray.empty x3_1 x10_3).toList = (((rd_T45 l0 x4_1).f0) ++ ((rd_T45 l0 x4_1).f1)).toList
                            · rw [if_pos c21] at H
                              have c21b0 : ((rdOf ByteArray.empty x3_1 x10_3).toList == (((rd_T45 l0 x4_1).f0) ++ ((rd_T45 l0 x4_1).f1)).toList) = true := beq_iff_eq.mpr c21
                              have c21b1 : ((rdOf ByteArray.empty x3_1 x10_3).toList != (((rd_T45 l0 x4_1).f0) ++ ((rd_T45 l0 x4_1).f1)).toList) = false := bne_eq_false_iff_eq.mpr c21
                              clear c21
                              obtain rfl := Option.some.inj H
                              obtain ⟨Ao22, co22, eo22⟩ := Kd.R_slice HO_3.out
                              subst eo22
                              have p377 : 0 ≤ (x10_3 : Int) := of_decide_eq_true (by first | (with_reducible assumption) | assumption)
                              have q377 : x10_3 < (x3_1.length : Int) := of_decide_eq_true (by first | (with_reducible assumption) | assumption)
                              obtain ⟨ad377, e377, hx377_0⟩ := Kd.at_string (Kd.R_reads' HO_3.out).2.2 x10_3 p377 q377
                              cases e377
                              replace p377 := eq_true p377
                              replace q377 := eq_true q377
                              go_wp2
                              repeat (go_quiet (fail); try go_wp2)
                              go_ret
                              exact ⟨by first | rfl | (simp [errW_none, errW_some] <;> rfl) | (simp [*, errW_none, errW_some] <;> rfl), by repeat (first | (with_reducible first | exact HB.out | apply below_alloc | apply pw_below_drewN | apply below_drew1) | exact HB.out)⟩
                            · rw [if_neg c21] at H
                              have c21b0 : ((rdOf ByteArray.empty x3_1 x10_3).toList == (((rd_T45 l0 x4_1).f0) ++ ((rd_T45 l0 x4_1).f1)).toList) = false := beq_eq_false_iff_ne.mpr c21
                              have c21b1 : ((rdOf ByteArray.empty x3_1 x10_3).toList != (((rd_T45 l0 x4_1).f0) ++ ((rd_T45 l0 x4_1).f1)).toList) = true := bne_iff_ne.mpr c21
                              have H' := Aside0.mk H
                              clear H
                              obtain ⟨Ao23, co23, eo23⟩ := Kd.R_slice HO_3.out
                              subst eo23
                              have p377 : 0 ≤ (x10_3 : Int) := of_decide_eq_true (by first | (with_reducible assumption) | assumption)
                              have q377 : x10_3 < (x3_1.length : Int) := of_decide_eq_true (by first | (with_reducible assumption) | assumption)
                              obtain ⟨ad377, e377, hx377_0⟩ := Kd.at_string (Kd.R_reads' HO_3.out).2.2 x10_3 p377 q377
                              cases e377
                              replace p377 := eq_true p377
                              replace q377 := eq_true q377
                              go_wp2
                              repeat (go_quiet (fail); try go_wp2)
                              go_roundg k3
                              case measure => have := HK1.out; have := HK2.out; have := HK3.out; omega
                              case rel => exact ⟨(wrap64 (x10_3 + 1)), (by first | rfl | (simp; done) | (simp [*]; done)), H', ⟨by have := HK1.out; have := HK2.out; have := HK3.out; omega⟩, ⟨by (with_reducible repeat (first | apply Kd.R_alloc | apply Kd.R_drewN | apply Kd.R_drew)); exact HO_3.out⟩, ⟨by repeat (first | (with_reducible first | exact HB.out | apply below_alloc | apply pw_below_drewN | apply below_drew1) | exact HB.out)⟩⟩
                          · rw [if_neg c20] at H
                            exact absurd H (by simp)
                        · rw [if_neg c19] at H
                          have c19b0 : decide (x10_3 < (x3_1.length : Int)) = false := decide_eq_false c19
                          clear c19
                          by_cases c24 : x3_1.length < 8796093022208
                          · rw [if_pos c24] at H
                            have LMc24 := Aside0.mk c24
                            clear c24
                            obtain ⟨y378, hy378⟩ : ∃ y_ : List ByteArray, y_ = (x3_1 ++ [(((rd_T45 l0 x4_1).f0) ++ ((rd_T45 l0 x4_1).f1))]) := ⟨_, rfl⟩
                            replace H : (gluepotref16_Right.l0 k3 l0 y378 (wrap64 (x4_1 + 1))) = some r := by first | (rw [hy378]; with_reducible exact H) | (have H2_ := (Option.bind_some _ _).symm.trans H; rw [hy378]; with_reducible exact H2_) | (have H2_ := (Option.bind_some _ _).symm.trans H; with_reducible exact H2_) | with_reducible exact H | (rw [hy378]; exact H) | exact H
                            have Ny378 := Aside0.mk hy378
                            clear hy378
                            have H' := Aside0.mk H
                            clear H
                            obtain ⟨Ao25, co25, eo25⟩ := Kd.R_slice HO_3.out
                            subst eo25
                            go_wp2_with (first | ((with_reducible refine gate_builtin (b := .append) (xs := #[.tmp 77, .tmp 79]) rfl ?_); at_builtin; refine Kd.R_append Kd.string (w0 := w) w.heap.size rfl (.tmp 77) (.tmp 79) 46 9 (.string ⟨#[]⟩) 16 rfl Try.underlying46 info9 rfl (by decide) (by omega) (.slice Ao25 x3_1.length co25) x3_1 (((rd_T45 l0 x4_1).f0) ++ ((rd_T45 l0 x4_1).f1)) [.string (((rd_T45 l0 x4_1).f0) ++ ((rd_T45 l0 x4_1).f1))] (fun _ => True) (fun _ => False) rfl rfl ?aP (fun _ hk => hk.elim) ?aF ?aO ?aB ?aS ?aL ?_; (case aP => exact rfl); (case aB => exact (by repeat (first | (with_reducible first | exact HB.out | apply below_alloc | apply pw_below_drewN | apply below_drew1) | exact HB.out))); (case aF => exact (fun _ _ => trivial)); (case aO => exact (by (with_reducible repeat (first | apply Kd.R_alloc | apply Kd.R_drewN | apply Kd.R_drew)); exact HO_3.out)); (case aS => exact (below_size (by repeat (first | (with_reducible first | exact HB.out | apply below_alloc | apply pw_below_drewN | apply below_drew1) | exact HB.out)))); (case aL => have := LMc24.out; omega); intro v379 w26 ho hb hg hat; rw [← Ny378.out] at ho; have n0_ := Aside0.mk (hb); have n1_ := Aside0.mk (ho); clear HB; clear HO_3; have HB := n0_; have HO380 := n1_; clear n0_ n1_; clear ho hb hg hat))
                            repeat (go_quiet (first | ((with_reducible refine gate_builtin (b := .append) (xs := #[.tmp 77, .tmp 79]) rfl ?_); at_builtin; refine Kd.R_append Kd.string (w0 := w) w.heap.size rfl (.tmp 77) (.tmp 79) 46 9 (.string ⟨#[]⟩) 16 rfl Try.underlying46 info9 rfl (by decide) (by omega) (.slice Ao25 x3_1.length co25) x3_1 (((rd_T45 l0 x4_1).f0) ++ ((rd_T45 l0 x4_1).f1)) [.string (((rd_T45 l0 x4_1).f0) ++ ((rd_T45 l0 x4_1).f1))] (fun _ => True) (fun _ => False) rfl rfl ?aP (fun _ hk => hk.elim) ?aF ?aO ?aB ?aS ?aL ?_; (case aP => exact rfl); (case aB => exact (by repeat (first | (with_reducible first | exact HB.out | apply below_alloc | apply pw_below_drewN | apply below_drew1) | exact HB.out))); (case aF => exact (fun _ _ => trivial)); (case aO => exact (by (with_reducible repeat (first | apply Kd.R_alloc | apply Kd.R_drewN | apply Kd.R_drew)); exact HO_3.out)); (case aS => exact (below_size (by repeat (first | (with_reducible first | exact HB.out | apply below_alloc | apply pw_below_drewN | apply below_drew1) | exact HB.out)))); (case aL => have := LMc24.out; omega); intro v379 w26 ho hb hg hat; rw [← Ny378.out] at ho; have n0_ := Aside0.mk (hb); have n1_ := Aside0.mk (ho); clear HB; clear HO_3; have HB := n0_; have HO380 := n1_; clear n0_ n1_; clear ho hb hg hat)); try go_wp2_with (first | ((with_reducible refine gate_builtin (b := .append) (xs := #[.tmp 77, .tmp 79]) rfl ?_); at_builtin; refine Kd.R_append Kd.string (w0 := w) w.heap.size rfl (.tmp 77) (.tmp 79) 46 9 (.string ⟨#[]⟩) 16 rfl Try.underlying46 info9 rfl (by decide) (by omega) (.slice Ao25 x3_1.length co25) x3_1 (((rd_T45 l0 x4_1).f0) ++ ((rd_T45 l0 x4_1).f1)) [.string (((rd_T45 l0 x4_1).f0) ++ ((rd_T45 l0 x4_1).f1))] (fun _ => True) (fun _ => False) rfl rfl ?aP (fun _ hk => hk.elim) ?aF ?aO ?aB ?aS ?aL ?_; (case aP => exact rfl); (case aB => exact (by repeat (first | (with_reducible first | exact HB.out | apply below_alloc | apply pw_below_drewN | apply below_drew1) | exact HB.out))); (case aF => exact (fun _ _ => trivial)); (case aO => exact (by (with_reducible repeat (first | apply Kd.R_alloc | apply Kd.R_drewN | apply Kd.R_drew)); exact HO_3.out)); (case aS => exact (below_size (by repeat (first | (with_reducible first | exact HB.out | apply below_alloc | apply pw_below_drewN | apply below_drew1) | exact HB.out)))); (case aL => have := LMc24.out; omega); intro v379 w26 ho hb hg hat; rw [← Ny378.out] at ho; have n0_ := Aside0.mk (hb); have n1_ := Aside0.mk (ho); clear HB; clear HO_3; have HB := n0_; have HO380 := n1_; clear n0_ n1_; clear ho hb hg hat)))
                            go_roundg k3
                            case measure => have := HK1.out; have := HK2.out; have := HK3.out; omega
                            case rel => exact ⟨(y378), (wrap64 (x4_1 + 1)), (by first | rfl | (simp; done) | (simp [*]; done)), H', ⟨by have := HK1.out; have := HK2.out; have := HK3.out; omega⟩, ⟨by (with_reducible repeat (first | apply Kd.R_alloc | apply Kd.R_drewN | apply Kd.R_drew)); exact HO380.out⟩, ⟨by repeat (first | (with_reducible first | exact HB.out | apply below_alloc | apply pw_below_drewN | apply below_drew1) | exact HB.out)⟩⟩
                          · rw [if_neg c24] at H
                            exact absurd H (by simp)
                  · rw [if_neg c18] at H
                    exact absurd H (by simp)
                · rw [if_neg c17] at H
                  exact absurd H (by simp)
              · rw [if_neg c16] at H
                exact absurd H (by simp)
      · rw [if_neg c2] at H
        have c2b0 : decide (x4_1 < (l0.length : Int)) = false := decide_eq_false c2
        clear c2
        obtain rfl := Option.some.inj H
        go_wp2
        repeat (go_quiet (fail); try go_wp2)
        go_ret
        exact ⟨by first | rfl | (simp [errW_none, errW_some] <;> rfl) | (simp [*, errW_none, errW_some] <;> rfl), by repeat (first | (with_reducible first | exact HB.out | apply below_alloc | apply pw_below_drewN | apply below_drew1) | exact HB.out)⟩

end Go.Proofs.Ytbfjlfbahjmibaa.Pr
