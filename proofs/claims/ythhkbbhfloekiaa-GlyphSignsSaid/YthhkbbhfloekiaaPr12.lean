-- Written by wip/pr.py (over the print of the kit) out of the translation.
import Derived.Test.YthhkbbhfloekiaaPr0
namespace Go.Proofs.Ythhkbbhfloekiaa.Pr
open Go.RowKit Go.Proofs.YthhkbbhfloekiaaW.PrintWords Go.Proofs.YthhkbbhfloekiaaW.PrintLast Go.Proofs.YthhkbbhfloekiaaW.PrintMore
attribute [local go_sem] max2_int min2_int max_two min_two max_three min_three max_four min_four   -- for this text's walks alone
set_option linter.unusedVariables false
set_option linter.unusedSimpArgs false

/-! ### gluepotref02_Sign: function 10 -/
def gluepotref02_Sign.j0 : Nat → Int → Bool → Option (Int)
  | 0, _, _ => none
  | k + 1, x3, x23 => if x23 = true then (some x3) else (if x3 ≤ 32 then (some (wrap64 (256 + x3))) else (if x3 ≤ 160 then (some (wrap64 ((wrap64 (289 + x3)) - 127))) else (some 323)))
def gluepotref02_Sign.f (k : Nat) (a0 : Int) : Option (Int) := if (wrap64 (a0)) ≥ 33 then (if (wrap64 (a0)) ≤ 126 then (gluepotref02_Sign.j0 k (wrap64 (a0)) true) else (if (wrap64 (a0)) ≥ 161 then (if (wrap64 (a0)) ≤ 172 then (gluepotref02_Sign.j0 k (wrap64 (a0)) true) else (gluepotref02_Sign.j0 k (wrap64 (a0)) (decide ((wrap64 (a0)) ≥ 174)))) else (gluepotref02_Sign.j0 k (wrap64 (a0)) (decide ((wrap64 (a0)) ≥ 174))))) else (if (wrap64 (a0)) ≥ 161 then (if (wrap64 (a0)) ≤ 172 then (gluepotref02_Sign.j0 k (wrap64 (a0)) true) else (gluepotref02_Sign.j0 k (wrap64 (a0)) (decide ((wrap64 (a0)) ≥ 174)))) else (gluepotref02_Sign.j0 k (wrap64 (a0)) (decide ((wrap64 (a0)) ≥ 174))))
theorem gluepotref02_Sign.mono_l : ∀ k, (∀ y0 y1, LeO (gluepotref02_Sign.j0 k y0 y1) (gluepotref02_Sign.j0 (k + 1) y0 y1))
  | 0 => fun _ _ r h => by simp [gluepotref02_Sign.j0] at h
  | k + 1 => by
    have ih0 := gluepotref02_Sign.mono_l k
    · intro y0 y1
      unfold gluepotref02_Sign.j0
      repeat' first
      | (with_reducible exact ih0 _ _)
      | (with_reducible exact LeO.refl _)
      | (with_reducible exact LeO.none _)
      | (with_reducible refine LeO.ite ?_ ?_)
      | (with_reducible refine LeO.bind ?_ (fun _ => ?_))
      | exact ih0 _ _
      | exact LeO.none _
      | refine LeO.ite ?_ ?_
      | refine LeO.bind ?_ (fun _ => ?_)
theorem gluepotref02_Sign.mono : ∀ a0 k, LeO (gluepotref02_Sign.f k a0) (gluepotref02_Sign.f (k + 1) a0) := by
  intro a0 k
  have ih0 := gluepotref02_Sign.mono_l k
  unfold gluepotref02_Sign.f
  repeat' first
      | (with_reducible exact ih0 _ _)
      | (with_reducible exact LeO.refl _)
      | (with_reducible exact LeO.none _)
      | (with_reducible refine LeO.ite ?_ ?_)
      | (with_reducible refine LeO.bind ?_ (fun _ => ?_))
      | exact ih0 _ _
      | exact LeO.none _
      | refine LeO.ite ?_ ?_
      | refine LeO.bind ?_ (fun _ => ?_)
set_option maxHeartbeats 8000000 in
set_option maxRecDepth 100000 in
theorem gluepotref02_Sign.calls (k : Nat) (a0 : Int) (r : Int) (w : World) (h : gluepotref02_Sign.f k a0 = some r) :
    Calls Try.prog 10 #[.int .u8 a0] w fun e w' => e = .returned (.int .i64 r) ∧ Drawn0 w w' := by
  have H : (if (wrap64 (a0)) ≥ 33 then (if (wrap64 (a0)) ≤ 126 then (gluepotref02_Sign.j0 k (wrap64 (a0)) true) else (if (wrap64 (a0)) ≥ 161 then (if (wrap64 (a0)) ≤ 172 then (gluepotref02_Sign.j0 k (wrap64 (a0)) true) else (gluepotref02_Sign.j0 k (wrap64 (a0)) (decide ((wrap64 (a0)) ≥ 174)))) else (gluepotref02_Sign.j0 k (wrap64 (a0)) (decide ((wrap64 (a0)) ≥ 174))))) else (if (wrap64 (a0)) ≥ 161 then (if (wrap64 (a0)) ≤ 172 then (gluepotref02_Sign.j0 k (wrap64 (a0)) true) else (gluepotref02_Sign.j0 k (wrap64 (a0)) (decide ((wrap64 (a0)) ≥ 174)))) else (gluepotref02_Sign.j0 k (wrap64 (a0)) (decide ((wrap64 (a0)) ≥ 174))))) = some r := h
  clear h
  have HC2 := Aside0.mk H
  clear H
  go_enter Try.func10, Try.ntmps10
  go_upto_region 2 with (fail)
  go_cut [23] (fun v23 wc => ∃ (kq : Nat) (x23_1 : Bool), v23 = .bool x23_1 ∧ Aside0 (gluepotref02_Sign.j0 kq (wrap64 (a0)) x23_1 = some r) ∧ Aside0 (kq ≤ k) ∧ Drawn0 w wc)
  case first =>
    have H := HC2.out
    clear HC2
    by_cases c3 : (wrap64 (a0)) ≥ 33
    · rw [if_pos c3] at H
      have c3b0 : decide (33 ≤ (wrap64 (a0))) = true := decide_eq_true c3
      clear c3
      (first | rw [c3b0] | (simp only [i64_w, i32_w]; rw [c3b0]) | skip)
      by_cases c4 : (wrap64 (a0)) ≤ 126
      · rw [if_pos c4] at H
        have c4b0 : decide ((wrap64 (a0)) ≤ 126) = true := decide_eq_true c4
        clear c4
        have H' := Aside0.mk H
        clear H
        go_wp2
        go_meet
        case rel => exact ⟨_, (true), (by first | rfl | (simp; done) | (simp [*]; done)), H', ⟨by first | omega | exact Nat.le_refl _⟩, by repeat (first | exact Drawn0.refl _ | apply Drawn0.step)⟩
      · rw [if_neg c4] at H
        have c4b0 : decide ((wrap64 (a0)) ≤ 126) = false := decide_eq_false c4
        clear c4
        by_cases c5 : (wrap64 (a0)) ≥ 161
        · rw [if_pos c5] at H
          have c5b0 : decide (161 ≤ (wrap64 (a0))) = true := decide_eq_true c5
          clear c5
          by_cases c6 : (wrap64 (a0)) ≤ 172
          · rw [if_pos c6] at H
            have c6b0 : decide ((wrap64 (a0)) ≤ 172) = true := decide_eq_true c6
            clear c6
            have H' := Aside0.mk H
            clear H
            go_wp2
            go_meet
            case rel => exact ⟨_, (true), (by first | rfl | (simp; done) | (simp [*]; done)), H', ⟨by first | omega | exact Nat.le_refl _⟩, by repeat (first | exact Drawn0.refl _ | apply Drawn0.step)⟩
          · rw [if_neg c6] at H
            have c6b0 : decide ((wrap64 (a0)) ≤ 172) = false := decide_eq_false c6
            clear c6
            have H' := Aside0.mk H
            clear H
            go_wp2
            go_meet
            case rel => exact ⟨_, (decide ((wrap64 (a0)) ≥ 174)), (by first | rfl | (simp; done) | (simp [*]; done)), H', ⟨by first | omega | exact Nat.le_refl _⟩, by repeat (first | exact Drawn0.refl _ | apply Drawn0.step)⟩
        · rw [if_neg c5] at H
          have c5b0 : decide (161 ≤ (wrap64 (a0))) = false := decide_eq_false c5
          clear c5
          have H' := Aside0.mk H
          clear H
          go_wp2
          go_meet
          case rel => exact ⟨_, (decide ((wrap64 (a0)) ≥ 174)), (by first | rfl | (simp; done) | (simp [*]; done)), H', ⟨by first | omega | exact Nat.le_refl _⟩, by repeat (first | exact Drawn0.refl _ | apply Drawn0.step)⟩
    · rw [if_neg c3] at H
      have c3b0 : decide (33 ≤ (wrap64 (a0))) = false := decide_eq_false c3
      clear c3
      (first | rw [c3b0] | (simp only [i64_w, i32_w]; rw [c3b0]) | skip)
      by_cases c7 : (wrap64 (a0)) ≥ 161
      · rw [if_pos c7] at H
        have c7b0 : decide (161 ≤ (wrap64 (a0))) = true := decide_eq_true c7
        clear c7
        by_cases c8 : (wrap64 (a0)) ≤ 172
        · rw [if_pos c8] at H
          have c8b0 : decide ((wrap64 (a0)) ≤ 172) = true := decide_eq_true c8
          clear c8
          have H' := Aside0.mk H
          clear H
          go_wp2
          go_meet
          case rel => exact ⟨_, (true), (by first | rfl | (simp; done) | (simp [*]; done)), H', ⟨by first | omega | exact Nat.le_refl _⟩, by repeat (first | exact Drawn0.refl _ | apply Drawn0.step)⟩
        · rw [if_neg c8] at H
          have c8b0 : decide ((wrap64 (a0)) ≤ 172) = false := decide_eq_false c8
          clear c8
          have H' := Aside0.mk H
          clear H
          go_wp2
          go_meet
          case rel => exact ⟨_, (decide ((wrap64 (a0)) ≥ 174)), (by first | rfl | (simp; done) | (simp [*]; done)), H', ⟨by first | omega | exact Nat.le_refl _⟩, by repeat (first | exact Drawn0.refl _ | apply Drawn0.step)⟩
      · rw [if_neg c7] at H
        have c7b0 : decide (161 ≤ (wrap64 (a0))) = false := decide_eq_false c7
        clear c7
        have H' := Aside0.mk H
        clear H
        go_wp2
        go_meet
        case rel => exact ⟨_, (decide ((wrap64 (a0)) ≥ 174)), (by first | rfl | (simp; done) | (simp [*]; done)), H', ⟨by first | omega | exact Nat.le_refl _⟩, by repeat (first | exact Drawn0.refl _ | apply Drawn0.step)⟩
  case rest =>
    clear HC2
    try clear c1
    try clear p2
    try clear c3
    try clear c3b0
    try clear c4
    try clear c4b0
    try clear c5
    try clear c5b0
    try clear c6
    try clear c6b0
    try clear p6
    try clear c7
    try clear c7b0
    try clear c8
    try clear c8b0
    obtain ⟨kq, x23_1, rfl, HA, HJ1, ⟨mc1, rfl⟩⟩ := hcut
    cases kq with
    | zero => exact absurd HA.out (by simp [gluepotref02_Sign.j0])
    | succ kj1 =>
      have H := HA.out
      clear HA
      simp only [gluepotref02_Sign.j0] at H
      by_cases c9 : x23_1 = true
      · subst c9
        have H1 : (some (wrap64 (a0))) = some r := by rw [if_pos rfl] at H; exact H
        clear H
        have H := H1
        clear H1
        obtain rfl := Option.some.inj H
        go_wp2
        go_ret
        exact ⟨by first | rfl | (simp; done) | (simp [*]; done), by repeat (first | exact Drawn0.refl _ | apply Drawn0.step)⟩
      · replace c9 := Bool.eq_false_iff.mpr c9
        subst c9
        have H1 : (if (wrap64 (a0)) ≤ 32 then (some (wrap64 (256 + (wrap64 (a0))))) else (if (wrap64 (a0)) ≤ 160 then (some (wrap64 ((wrap64 (289 + (wrap64 (a0)))) - 127))) else (some 323))) = some r := by rw [if_neg (show ¬ (false = true) by decide)] at H; exact H
        clear H
        have H := H1
        clear H1
        by_cases c10 : (wrap64 (a0)) ≤ 32
        · rw [if_pos c10] at H
          have c10b0 : decide ((wrap64 (a0)) ≤ 32) = true := decide_eq_true c10
          clear c10
          obtain rfl := Option.some.inj H
          go_wp2
          go_ret
          exact ⟨by first | rfl | (simp; done) | (simp [*]; done), by repeat (first | exact Drawn0.refl _ | apply Drawn0.step)⟩
        · rw [if_neg c10] at H
          have c10b0 : decide ((wrap64 (a0)) ≤ 32) = false := decide_eq_false c10
          clear c10
          by_cases c11 : (wrap64 (a0)) ≤ 160
          · rw [if_pos c11] at H
            have c11b0 : decide ((wrap64 (a0)) ≤ 160) = true := decide_eq_true c11
            clear c11
            obtain rfl := Option.some.inj H
            go_wp2
            go_ret
            exact ⟨by first | rfl | (simp; done) | (simp [*]; done), by repeat (first | exact Drawn0.refl _ | apply Drawn0.step)⟩
          · rw [if_neg c11] at H
            have c11b0 : decide ((wrap64 (a0)) ≤ 160) = false := decide_eq_false c11
            clear c11
            obtain rfl := Option.some.inj H
            go_wp2
            go_ret
            exact ⟨by first | rfl | (simp; done) | (simp [*]; done), by repeat (first | exact Drawn0.refl _ | apply Drawn0.step)⟩

end Go.Proofs.Ythhkbbhfloekiaa.Pr
