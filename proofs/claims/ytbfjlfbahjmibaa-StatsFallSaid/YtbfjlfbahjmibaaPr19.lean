/- Pr19, Pr20, Pr21 in one text (wip/mtext.py). -/
import Derived.Test.YtbfjlfbahjmibaaPr0
namespace Go.Proofs.Ytbfjlfbahjmibaa.Pr
open Go.RowKit Go.Proofs.YtbfjlfbahjmibaaW.PrintWords Go.Proofs.YtbfjlfbahjmibaaW.PrintLast Go.Proofs.YtbfjlfbahjmibaaW.PrintMore
attribute [local go_sem] max2_int min2_int max_two min_two max_three min_three max_four min_four   -- for this text's walks alone
set_option linter.unusedVariables false
set_option linter.unusedSimpArgs false

/-! ### gluepotref07_Great: function 10 -/
def gluepotref07_Great.l0 : Nat → List (S35) → Int → Int → Option (Bool)
  | 0, _, _, _ => none
  | k + 1, x0, x1, x5 => if x5 < (x0.length : Int) then (if 0 ≤ x5 then (if (((rd_T35 x0 x5).f0).size : Int) > 100 then (some true) else (gluepotref07_Great.l0 k x0 x1 (wrap64 (x5 + 1)))) else (none)) else (some (decide ((x0.length : Int) > x1)))
def gluepotref07_Great.f (k : Nat) (l0 : List (S35)) (a1 : Int) : Option (Bool) := gluepotref07_Great.l0 k l0 a1 0
theorem gluepotref07_Great.mono_l : ∀ k, (∀ y0 y1 y2, LeO (gluepotref07_Great.l0 k y0 y1 y2) (gluepotref07_Great.l0 (k + 1) y0 y1 y2))
  | 0 => fun _ _ _ r h => by simp [gluepotref07_Great.l0] at h
  | k + 1 => by
    have ih0 := gluepotref07_Great.mono_l k
    · intro y0 y1 y2
      unfold gluepotref07_Great.l0
      repeat' first
      | (with_reducible exact ih0 _ _ _)
      | (with_reducible exact LeO.refl _)
      | (with_reducible exact LeO.none _)
      | (with_reducible refine LeO.ite ?_ ?_)
      | (with_reducible refine LeO.bind ?_ (fun _ => ?_))
      | exact ih0 _ _ _
      | exact LeO.none _
      | refine LeO.ite ?_ ?_
      | refine LeO.bind ?_ (fun _ => ?_)
theorem gluepotref07_Great.mono : ∀ a0 a1 k, LeO (gluepotref07_Great.f k a0 a1) (gluepotref07_Great.f (k + 1) a0 a1) := by
  intro a0 a1 k
  have ih0 := gluepotref07_Great.mono_l k
  unfold gluepotref07_Great.f
  repeat' first
      | (with_reducible exact ih0 _ _ _)
      | (with_reducible exact LeO.refl _)
      | (with_reducible exact LeO.none _)
      | (with_reducible refine LeO.ite ?_ ?_)
      | (with_reducible refine LeO.bind ?_ (fun _ => ?_))
      | exact ih0 _ _ _
      | exact LeO.none _
      | refine LeO.ite ?_ ?_
      | refine LeO.bind ?_ (fun _ => ?_)
set_option maxHeartbeats 8000000 in
set_option maxRecDepth 100000 in
theorem gluepotref07_Great.calls (k : Nat) (A0 : Option Addr) (c0 : Nat) (l0 : List (S35)) (a1 : Int) (r : Bool) (w : World) (hr0 : Kd.C k35 w A0 l0.length l0) (hc0 : l0.length ≤ c0) (h : gluepotref07_Great.f k l0 a1 = some r) :
    Calls Try.prog 10 #[.slice A0 l0.length c0, .int .i64 a1] w fun e w' => e = .returned (.bool r) ∧ Drawn0 w w' := by
  have HR0 := Aside0.mk hr0
  have HC0 := Aside0.mk hc0
  clear hr0 hc0
  have H : (gluepotref07_Great.l0 k l0 a1 0) = some r := h
  clear h
  have H' := Aside0.mk H
  clear H
  go_enter Try.func10, Try.ntmps10
  go_wp2
  go_loopg [5] k (fun kq v5 w' => ∃ (x5_1 : Int), v5 = .int .i64 x5_1 ∧ Aside0 (gluepotref07_Great.l0 kq l0 a1 x5_1 = some r) ∧ Aside0 (kq ≤ k) ∧ Drawn0 w w')
  case atStart => exact ⟨(0), (by first | rfl | (simp; done) | (simp [*]; done)), H', ⟨Nat.le_refl _⟩, by repeat (first | exact Drawn0.refl _ | apply Drawn0.step)⟩
  case round =>
    clear H'
    try clear c1
    try clear p2
    obtain ⟨x5_1, rfl, HA, HK1, ⟨m1, rfl⟩⟩ := hrel
    cases gk with
    | zero => exact absurd HA.out (by simp [gluepotref07_Great.l0])
    | succ k1 =>
      have H := HA.out
      clear HA
      simp only [gluepotref07_Great.l0] at H
      by_cases c3 : x5_1 < (l0.length : Int)
      · rw [if_pos c3] at H
        have c3b0 : decide (x5_1 < (l0.length : Int)) = true := decide_eq_true c3
        clear c3
        by_cases c4 : 0 ≤ x5_1
        · rw [if_pos c4] at H
          have c4b0 : decide (0 ≤ x5_1) = true := decide_eq_true c4
          clear c4
          by_cases c5 : (((rd_T35 l0 x5_1).f0).size : Int) > 100
          · rw [if_pos c5] at H
            have c5b0 : decide (100 < (((rd_T35 l0 x5_1).f0).size : Int)) = true := decide_eq_true c5
            have c5b1 : decide (100 < ((rd_T35 l0 x5_1).f0).size) = true := decide_eq_true (by omega)
            clear c5
            obtain rfl := Option.some.inj H
            have p184 : 0 ≤ (x5_1 : Int) := of_decide_eq_true (by first | (with_reducible assumption) | assumption)
            have q184 : x5_1 < (l0.length : Int) := of_decide_eq_true (by first | (with_reducible assumption) | assumption)
            obtain ⟨ad184, e184, hx184_0, hx184_1⟩ := at_T35 HR0.out x5_1 p184 q184
            cases e184
            replace p184 := eq_true p184
            replace q184 := eq_true q184
            go_wp2
            go_ret
            exact ⟨by first | rfl | (simp; done) | (simp [*]; done), by repeat (first | exact Drawn0.refl _ | apply Drawn0.step)⟩
          · rw [if_neg c5] at H
            have c5b0 : decide (100 < (((rd_T35 l0 x5_1).f0).size : Int)) = false := decide_eq_false c5
            have c5b1 : decide (100 < ((rd_T35 l0 x5_1).f0).size) = false := decide_eq_false (by omega)
            clear c5
            have H' := Aside0.mk H
            clear H
            have p184 : 0 ≤ (x5_1 : Int) := of_decide_eq_true (by first | (with_reducible assumption) | assumption)
            have q184 : x5_1 < (l0.length : Int) := of_decide_eq_true (by first | (with_reducible assumption) | assumption)
            obtain ⟨ad184, e184, hx184_0, hx184_1⟩ := at_T35 HR0.out x5_1 p184 q184
            cases e184
            replace p184 := eq_true p184
            replace q184 := eq_true q184
            go_wp2
            go_roundg k1
            case measure => have := HK1.out; omega
            case rel => exact ⟨(wrap64 (x5_1 + 1)), (by first | rfl | (simp; done) | (simp [*]; done)), H', ⟨by have := HK1.out; omega⟩, by repeat (first | exact Drawn0.refl _ | apply Drawn0.step)⟩
        · rw [if_neg c4] at H
          exact absurd H (by simp)
      · rw [if_neg c3] at H
        have c3b0 : decide (x5_1 < (l0.length : Int)) = false := decide_eq_false c3
        clear c3
        obtain rfl := Option.some.inj H
        go_wp2
        go_ret
        exact ⟨by first | rfl | (simp; done) | (simp [*]; done), by repeat (first | exact Drawn0.refl _ | apply Drawn0.step)⟩

end Go.Proofs.Ytbfjlfbahjmibaa.Pr

namespace Go.Proofs.Ytbfjlfbahjmibaa.Pr
open Go.RowKit Go.Proofs.YtbfjlfbahjmibaaW.PrintWords Go.Proofs.YtbfjlfbahjmibaaW.PrintLast Go.Proofs.YtbfjlfbahjmibaaW.PrintMore
attribute [local go_sem] max2_int min2_int max_two min_two max_three min_three max_four min_four   -- for this text's walks alone
set_option linter.unusedVariables false
set_option linter.unusedSimpArgs false

/-! ### gluepotref08_Positions: function 11 -/
def gluepotref08_Positions.l0 : Nat → List (S35) → Int → Int → Option (Int)
  | 0, _, _, _ => none
  | k + 1, x0, x3, x4 => if x4 < (x0.length : Int) then (if 0 ≤ x4 then (gluepotref08_Positions.l0 k x0 (wrap64 (x3 + (((rd_T35 x0 x4).f0).size : Int))) (wrap64 (x4 + 1))) else (none)) else (some x3)
def gluepotref08_Positions.f (k : Nat) (l0 : List (S35)) : Option (Int) := gluepotref08_Positions.l0 k l0 0 0
theorem gluepotref08_Positions.mono_l : ∀ k, (∀ y0 y1 y2, LeO (gluepotref08_Positions.l0 k y0 y1 y2) (gluepotref08_Positions.l0 (k + 1) y0 y1 y2))
  | 0 => fun _ _ _ r h => by simp [gluepotref08_Positions.l0] at h
  | k + 1 => by
    have ih0 := gluepotref08_Positions.mono_l k
    · intro y0 y1 y2
      unfold gluepotref08_Positions.l0
      repeat' first
      | (with_reducible exact ih0 _ _ _)
      | (with_reducible exact LeO.refl _)
      | (with_reducible exact LeO.none _)
      | (with_reducible refine LeO.ite ?_ ?_)
      | (with_reducible refine LeO.bind ?_ (fun _ => ?_))
      | exact ih0 _ _ _
      | exact LeO.none _
      | refine LeO.ite ?_ ?_
      | refine LeO.bind ?_ (fun _ => ?_)
theorem gluepotref08_Positions.mono : ∀ a0 k, LeO (gluepotref08_Positions.f k a0) (gluepotref08_Positions.f (k + 1) a0) := by
  intro a0 k
  have ih0 := gluepotref08_Positions.mono_l k
  unfold gluepotref08_Positions.f
  repeat' first
      | (with_reducible exact ih0 _ _ _)
      | (with_reducible exact LeO.refl _)
      | (with_reducible exact LeO.none _)
      | (with_reducible refine LeO.ite ?_ ?_)
      | (with_reducible refine LeO.bind ?_ (fun _ => ?_))
      | exact ih0 _ _ _
      | exact LeO.none _
      | refine LeO.ite ?_ ?_
      | refine LeO.bind ?_ (fun _ => ?_)
set_option maxHeartbeats 8000000 in
set_option maxRecDepth 100000 in
theorem gluepotref08_Positions.calls (k : Nat) (A0 : Option Addr) (c0 : Nat) (l0 : List (S35)) (r : Int) (w : World) (hr0 : Kd.C k35 w A0 l0.length l0) (hc0 : l0.length ≤ c0) (h : gluepotref08_Positions.f k l0 = some r) :
    Calls Try.prog 11 #[.slice A0 l0.length c0] w fun e w' => e = .returned (.int .i64 r) ∧ Drawn0 w w' := by
  have HR0 := Aside0.mk hr0
  have HC0 := Aside0.mk hc0
  clear hr0 hc0
  have H : (gluepotref08_Positions.l0 k l0 0 0) = some r := h
  clear h
  have H' := Aside0.mk H
  clear H
  go_enter Try.func11, Try.ntmps11
  go_wp2
  go_loopg [3, 4] k (fun kq v3 v4 w' => ∃ (x3_1 : Int) (x4_1 : Int), v3 = .int .i64 x3_1 ∧ v4 = .int .i64 x4_1 ∧ Aside0 (gluepotref08_Positions.l0 kq l0 x3_1 x4_1 = some r) ∧ Aside0 (kq ≤ k) ∧ Drawn0 w w')
  case atStart => exact ⟨(0), (0), (by first | rfl | (simp; done) | (simp [*]; done)), (by first | rfl | (simp; done) | (simp [*]; done)), H', ⟨Nat.le_refl _⟩, by repeat (first | exact Drawn0.refl _ | apply Drawn0.step)⟩
  case round =>
    clear H'
    try clear c1
    obtain ⟨x3_1, x4_1, rfl, rfl, HA, HK1, ⟨m1, rfl⟩⟩ := hrel
    cases gk with
    | zero => exact absurd HA.out (by simp [gluepotref08_Positions.l0])
    | succ k1 =>
      have H := HA.out
      clear HA
      simp only [gluepotref08_Positions.l0] at H
      by_cases c2 : x4_1 < (l0.length : Int)
      · rw [if_pos c2] at H
        have c2b0 : decide (x4_1 < (l0.length : Int)) = true := decide_eq_true c2
        clear c2
        by_cases c3 : 0 ≤ x4_1
        · rw [if_pos c3] at H
          have c3b0 : decide (0 ≤ x4_1) = true := decide_eq_true c3
          clear c3
          have H' := Aside0.mk H
          clear H
          have p185 : 0 ≤ (x4_1 : Int) := of_decide_eq_true (by first | (with_reducible assumption) | assumption)
          have q185 : x4_1 < (l0.length : Int) := of_decide_eq_true (by first | (with_reducible assumption) | assumption)
          obtain ⟨ad185, e185, hx185_0, hx185_1⟩ := at_T35 HR0.out x4_1 p185 q185
          cases e185
          replace p185 := eq_true p185
          replace q185 := eq_true q185
          go_wp2
          go_roundg k1
          case measure => have := HK1.out; omega
          case rel => exact ⟨(wrap64 (x3_1 + (((rd_T35 l0 x4_1).f0).size : Int))), (wrap64 (x4_1 + 1)), (by first | rfl | (simp; done) | (simp [*]; done)), (by first | rfl | (simp; done) | (simp [*]; done)), H', ⟨by have := HK1.out; omega⟩, by repeat (first | exact Drawn0.refl _ | apply Drawn0.step)⟩
        · rw [if_neg c3] at H
          exact absurd H (by simp)
      · rw [if_neg c2] at H
        have c2b0 : decide (x4_1 < (l0.length : Int)) = false := decide_eq_false c2
        clear c2
        obtain rfl := Option.some.inj H
        go_wp2
        go_ret
        exact ⟨by first | rfl | (simp; done) | (simp [*]; done), by repeat (first | exact Drawn0.refl _ | apply Drawn0.step)⟩

end Go.Proofs.Ytbfjlfbahjmibaa.Pr

namespace Go.Proofs.Ytbfjlfbahjmibaa.Pr
open Go.RowKit Go.Proofs.YtbfjlfbahjmibaaW.PrintWords Go.Proofs.YtbfjlfbahjmibaaW.PrintLast Go.Proofs.YtbfjlfbahjmibaaW.PrintMore
attribute [local go_sem] max2_int min2_int max_two min_two max_three min_three max_four min_four   -- for this text's walks alone
set_option linter.unusedVariables false
set_option linter.unusedSimpArgs false

/-! ### gluepotref18_Great: function 12 -/
def gluepotref18_Great.l0 : Nat → List (S45) → Int → Int → Option (Bool)
  | 0, _, _, _ => none
  | k + 1, x0, x1, x5 => if x5 < (x0.length : Int) then (if 0 ≤ x5 then (if (((rd_T45 x0 x5).f0).size : Int) > 300 then (some true) else (if (((rd_T45 x0 x5).f1).size : Int) > 300 then (some true) else (gluepotref18_Great.l0 k x0 x1 (wrap64 (x5 + 1))))) else (none)) else (some (decide ((x0.length : Int) > x1)))
def gluepotref18_Great.f (k : Nat) (l0 : List (S45)) (a1 : Int) : Option (Bool) := gluepotref18_Great.l0 k l0 a1 0
theorem gluepotref18_Great.mono_l : ∀ k, (∀ y0 y1 y2, LeO (gluepotref18_Great.l0 k y0 y1 y2) (gluepotref18_Great.l0 (k + 1) y0 y1 y2))
  | 0 => fun _ _ _ r h => by simp [gluepotref18_Great.l0] at h
  | k + 1 => by
    have ih0 := gluepotref18_Great.mono_l k
    · intro y0 y1 y2
      unfold gluepotref18_Great.l0
      repeat' first
      | (with_reducible exact ih0 _ _ _)
      | (with_reducible exact LeO.refl _)
      | (with_reducible exact LeO.none _)
      | (with_reducible refine LeO.ite ?_ ?_)
      | (with_reducible refine LeO.bind ?_ (fun _ => ?_))
      | exact ih0 _ _ _
      | exact LeO.none _
      | refine LeO.ite ?_ ?_
      | refine LeO.bind ?_ (fun _ => ?_)
theorem gluepotref18_Great.mono : ∀ a0 a1 k, LeO (gluepotref18_Great.f k a0 a1) (gluepotref18_Great.f (k + 1) a0 a1) := by
  intro a0 a1 k
  have ih0 := gluepotref18_Great.mono_l k
  unfold gluepotref18_Great.f
  repeat' first
      | (with_reducible exact ih0 _ _ _)
      | (with_reducible exact LeO.refl _)
      | (with_reducible exact LeO.none _)
      | (with_reducible refine LeO.ite ?_ ?_)
      | (with_reducible refine LeO.bind ?_ (fun _ => ?_))
      | exact ih0 _ _ _
      | exact LeO.none _
      | refine LeO.ite ?_ ?_
      | refine LeO.bind ?_ (fun _ => ?_)
set_option maxHeartbeats 8000000 in
set_option maxRecDepth 100000 in
theorem gluepotref18_Great.calls (k : Nat) (A0 : Option Addr) (c0 : Nat) (l0 : List (S45)) (a1 : Int) (r : Bool) (w : World) (hr0 : Kd.C k45 w A0 l0.length l0) (hc0 : l0.length ≤ c0) (h : gluepotref18_Great.f k l0 a1 = some r) :
    Calls Try.prog 12 #[.slice A0 l0.length c0, .int .i64 a1] w fun e w' => e = .returned (.bool r) ∧ Drawn0 w w' := by
  have HR0 := Aside0.mk hr0
  have HC0 := Aside0.mk hc0
  clear hr0 hc0
  have H : (gluepotref18_Great.l0 k l0 a1 0) = some r := h
  clear h
  have H' := Aside0.mk H
  clear H
  go_enter Try.func12, Try.ntmps12
  go_wp2
  go_loopg [5] k (fun kq v5 w' => ∃ (x5_1 : Int), v5 = .int .i64 x5_1 ∧ Aside0 (gluepotref18_Great.l0 kq l0 a1 x5_1 = some r) ∧ Aside0 (kq ≤ k) ∧ Drawn0 w w')
  case atStart => exact ⟨(0), (by first | rfl | (simp; done) | (simp [*]; done)), H', ⟨Nat.le_refl _⟩, by repeat (first | exact Drawn0.refl _ | apply Drawn0.step)⟩
  case round =>
    clear H'
    try clear c1
    try clear p2
    obtain ⟨x5_1, rfl, HA, HK1, ⟨m1, rfl⟩⟩ := hrel
    cases gk with
    | zero => exact absurd HA.out (by simp [gluepotref18_Great.l0])
    | succ k1 =>
      have H := HA.out
      clear HA
      simp only [gluepotref18_Great.l0] at H
      by_cases c3 : x5_1 < (l0.length : Int)
      · rw [if_pos c3] at H
        have c3b0 : decide (x5_1 < (l0.length : Int)) = true := decide_eq_true c3
        clear c3
        by_cases c4 : 0 ≤ x5_1
        · rw [if_pos c4] at H
          have c4b0 : decide (0 ≤ x5_1) = true := decide_eq_true c4
          clear c4
          by_cases c5 : (((rd_T45 l0 x5_1).f0).size : Int) > 300
          · rw [if_pos c5] at H
            have c5b0 : decide (300 < (((rd_T45 l0 x5_1).f0).size : Int)) = true := decide_eq_true c5
            have c5b1 : decide (300 < ((rd_T45 l0 x5_1).f0).size) = true := decide_eq_true (by omega)
            clear c5
            obtain rfl := Option.some.inj H
            have p186 : 0 ≤ (x5_1 : Int) := of_decide_eq_true (by first | (with_reducible assumption) | assumption)
            have q186 : x5_1 < (l0.length : Int) := of_decide_eq_true (by first | (with_reducible assumption) | assumption)
            obtain ⟨ad186, e186, hx186_0, hx186_1⟩ := at_T45 HR0.out x5_1 p186 q186
            cases e186
            replace p186 := eq_true p186
            replace q186 := eq_true q186
            go_wp2
            go_ret
            exact ⟨by first | rfl | (simp; done) | (simp [*]; done), by repeat (first | exact Drawn0.refl _ | apply Drawn0.step)⟩
          · rw [if_neg c5] at H
            have c5b0 : decide (300 < (((rd_T45 l0 x5_1).f0).size : Int)) = false := decide_eq_false c5
            have c5b1 : decide (300 < ((rd_T45 l0 x5_1).f0).size) = false := decide_eq_false (by omega)
            clear c5
            by_cases c6 : (((rd_T45 l0 x5_1).f1).size : Int) > 300
            · rw [if_pos c6] at H
              have c6b0 : decide (300 < (((rd_T45 l0 x5_1).f1).size : Int)) = true := decide_eq_true c6
              have c6b1 : decide (300 < ((rd_T45 l0 x5_1).f1).size) = true := decide_eq_true (by omega)
              clear c6
              obtain rfl := Option.some.inj H
              have p186 : 0 ≤ (x5_1 : Int) := of_decide_eq_true (by first | (with_reducible assumption) | assumption)
              have q186 : x5_1 < (l0.length : Int) := of_decide_eq_true (by first | (with_reducible assumption) | assumption)
              obtain ⟨ad186, e186, hx186_0, hx186_1⟩ := at_T45 HR0.out x5_1 p186 q186
              cases e186
              replace p186 := eq_true p186
              replace q186 := eq_true q186
              have p187 : 0 ≤ (x5_1 : Int) := of_decide_eq_true (by first | (with_reducible assumption) | assumption)
              have q187 : x5_1 < (l0.length : Int) := of_decide_eq_true (by first | (with_reducible assumption) | assumption)
              obtain ⟨ad187, e187, hx187_0, hx187_1⟩ := at_T45 HR0.out x5_1 p187 q187
              obtain rfl : ad186 = ad187 := (by injection e187)
              replace p187 := eq_true p187
              replace q187 := eq_true q187
              go_wp2
              go_ret
              exact ⟨by first | rfl | (simp; done) | (simp [*]; done), by repeat (first | exact Drawn0.refl _ | apply Drawn0.step)⟩
            · rw [if_neg c6] at H
              have c6b0 : decide (300 < (((rd_T45 l0 x5_1).f1).size : Int)) = false := decide_eq_false c6
              have c6b1 : decide (300 < ((rd_T45 l0 x5_1).f1).size) = false := decide_eq_false (by omega)
              clear c6
              have H' := Aside0.mk H
              clear H
              have p186 : 0 ≤ (x5_1 : Int) := of_decide_eq_true (by first | (with_reducible assumption) | assumption)
              have q186 : x5_1 < (l0.length : Int) := of_decide_eq_true (by first | (with_reducible assumption) | assumption)
              obtain ⟨ad186, e186, hx186_0, hx186_1⟩ := at_T45 HR0.out x5_1 p186 q186
              cases e186
              replace p186 := eq_true p186
              replace q186 := eq_true q186
              have p187 : 0 ≤ (x5_1 : Int) := of_decide_eq_true (by first | (with_reducible assumption) | assumption)
              have q187 : x5_1 < (l0.length : Int) := of_decide_eq_true (by first | (with_reducible assumption) | assumption)
              obtain ⟨ad187, e187, hx187_0, hx187_1⟩ := at_T45 HR0.out x5_1 p187 q187
              obtain rfl : ad186 = ad187 := (by injection e187)
              replace p187 := eq_true p187
              replace q187 := eq_true q187
              go_wp2
              go_roundg k1
              case measure => have := HK1.out; omega
              case rel => exact ⟨(wrap64 (x5_1 + 1)), (by first | rfl | (simp; done) | (simp [*]; done)), H', ⟨by have := HK1.out; omega⟩, by repeat (first | exact Drawn0.refl _ | apply Drawn0.step)⟩
        · rw [if_neg c4] at H
          exact absurd H (by simp)
      · rw [if_neg c3] at H
        have c3b0 : decide (x5_1 < (l0.length : Int)) = false := decide_eq_false c3
        clear c3
        obtain rfl := Option.some.inj H
        go_wp2
        go_ret
        exact ⟨by first | rfl | (simp; done) | (simp [*]; done), by repeat (first | exact Drawn0.refl _ | apply Drawn0.step)⟩

end Go.Proofs.Ytbfjlfbahjmibaa.Pr
