-- Written by wip/pr.py (over the print of the kit) out of the translation.
import Derived.Test.YtbfjlfbahjmibaaPr0
import Derived.Test.YtbfjlfbahjmibaaPr26
import Derived.Test.YtbfjlfbahjmibaaPr27
import Derived.Test.YtbfjlfbahjmibaaPr28
import Derived.Test.YtbfjlfbahjmibaaHBest
namespace Go.Proofs.Ytbfjlfbahjmibaa.Pr
open Go.RowKit Go.Proofs.YtbfjlfbahjmibaaW.PrintWords Go.Proofs.YtbfjlfbahjmibaaW.PrintLast Go.Proofs.YtbfjlfbahjmibaaW.PrintMore
attribute [local go_sem] max2_int min2_int max_two min_two max_three min_three max_four min_four   -- for this text's walks alone
set_option linter.unusedVariables false
set_option linter.unusedSimpArgs false

/-! ### gluepotref16_Learn: function 18 -/
mutual
def gluepotref16_Learn.j0 : Nat → List (S35) → Int → Int → List (S45) → Bool → Option ((List (S45)))
  | 0, _, _, _, _, _ => none
  | k + 1, x0, x1, x2, x7, x27 => if x27 = true then (some x7) else (gluepotref16_Learn.l0 k x0 x1 x2 x7 ([] : List (List ByteArray)) ([] : List Int) 0)
def gluepotref16_Learn.l0 : Nat → List (S35) → Int → Int → List (S45) → List (List ByteArray) → List Int → Int → Option ((List (S45)))
  | 0, _, _, _, _, _, _, _ => none
  | k + 1, x0, x1, x2, x7, x10, x11, x12 => if x12 < (x0.length : Int) then (if 0 ≤ x12 then ((gluepotref16_Texts.f k ((rd_T35 x0 x12).f0)).bind fun t278 => (if x10.length < 5864062014805 then (if x11.length < 17592186044416 then (gluepotref16_Learn.l0 k x0 x1 x2 x7 (x10 ++ [t278]) (x11 ++ [(rd_T35 x0 x12).f1]) (wrap64 (x12 + 1))) else (none)) else (none))) else (none)) else (gluepotref16_Learn.l1 k x1 x2 x7 x10 x11)
def gluepotref16_Learn.l1 : Nat → Int → Int → List (S45) → List (List ByteArray) → List Int → Option ((List (S45)))
  | 0, _, _, _, _, _ => none
  | k + 1, x1, x2, x7, x10, x11 => if (x7.length : Int) < x1 then ((gluepotref16_Best.f x10 x11).bind fun bt288 => (if bt288.2.2 < x2 then (some x7) else (if x7.length < 4398046511104 then (gluepotref16_Learn.l2 k x1 x2 (x7 ++ [(⟨bt288.1, bt288.2.1⟩ : S45)]) x10 x11 ([] : List (List ByteArray)) 0 bt288.1 bt288.2.1) else (none)))) else (some x7)
def gluepotref16_Learn.l2 : Nat → Int → Int → List (S45) → List (List ByteArray) → List Int → List (List ByteArray) → Int → ByteArray → ByteArray → Option ((List (S45)))
  | 0, _, _, _, _, _, _, _, _, _ => none
  | k + 1, x1, x2, x7, x10, x11, x15, x16, x292000, x292001 => if x16 < (x10.length : Int) then (if 0 ≤ x16 then ((gluepotref16_Join.f k (rd_L4 x10 x16) x292000 x292001).bind fun t296 => (if x15.length < 5864062014805 then (gluepotref16_Learn.l2 k x1 x2 x7 x10 x11 (x15 ++ [t296]) (wrap64 (x16 + 1)) x292000 x292001) else (none))) else (none)) else (gluepotref16_Learn.l1 k x1 x2 x7 x15 x11)
end
def gluepotref16_Learn.f (k : Nat) (l0 : List (S35)) (a1 : Int) (a2 : Int) : Option ((List (S45))) := (gluepotref08_Check.f k l0).bind fun bt275 => (if bt275.2 = 0 then (gluepotref16_Learn.j0 k l0 a1 a2 ([] : List (S45)) (decide (a2 < 1))) else (gluepotref16_Learn.j0 k l0 a1 a2 ([] : List (S45)) true))
theorem gluepotref16_Learn.mono_l : ∀ k, (∀ y0 y1 y2 y3 y4, LeO (gluepotref16_Learn.j0 k y0 y1 y2 y3 y4) (gluepotref16_Learn.j0 (k + 1) y0 y1 y2 y3 y4)) ∧ (∀ y0 y1 y2 y3 y4 y5 y6, LeO (gluepotref16_Learn.l0 k y0 y1 y2 y3 y4 y5 y6) (gluepotref16_Learn.l0 (k + 1) y0 y1 y2 y3 y4 y5 y6)) ∧ (∀ y0 y1 y2 y3 y4, LeO (gluepotref16_Learn.l1 k y0 y1 y2 y3 y4) (gluepotref16_Learn.l1 (k + 1) y0 y1 y2 y3 y4)) ∧ (∀ y0 y1 y2 y3 y4 y5 y6 y7 y8, LeO (gluepotref16_Learn.l2 k y0 y1 y2 y3 y4 y5 y6 y7 y8) (gluepotref16_Learn.l2 (k + 1) y0 y1 y2 y3 y4 y5 y6 y7 y8))
  | 0 => ⟨fun _ _ _ _ _ r h => by simp [gluepotref16_Learn.j0] at h, fun _ _ _ _ _ _ _ r h => by simp [gluepotref16_Learn.l0] at h, fun _ _ _ _ _ r h => by simp [gluepotref16_Learn.l1] at h, fun _ _ _ _ _ _ _ _ _ r h => by simp [gluepotref16_Learn.l2] at h⟩
  | k + 1 => by
    obtain ⟨ih0, ih1, ih2, ih3⟩ := gluepotref16_Learn.mono_l k
    refine ⟨?_, ?_, ?_, ?_⟩
    · intro y0 y1 y2 y3 y4
      unfold gluepotref16_Learn.j0
      repeat' first
      | (with_reducible exact ih0 _ _ _ _ _)
      | (with_reducible exact ih1 _ _ _ _ _ _ _)
      | (with_reducible exact ih2 _ _ _ _ _)
      | (with_reducible exact ih3 _ _ _ _ _ _ _ _ _)
      | (with_reducible exact gluepotref08_Check.mono _ _)
      | (with_reducible exact gluepotref16_Join.mono _ _ _ _)
      | (with_reducible exact gluepotref16_Texts.mono _ _)
      | (with_reducible exact LeO.refl _)
      | (with_reducible exact LeO.none _)
      | (with_reducible refine LeO.ite ?_ ?_)
      | (with_reducible refine LeO.bind ?_ (fun _ => ?_))
      | exact ih0 _ _ _ _ _
      | exact ih1 _ _ _ _ _ _ _
      | exact ih2 _ _ _ _ _
      | exact ih3 _ _ _ _ _ _ _ _ _
      | exact gluepotref08_Check.mono _ _
      | exact gluepotref16_Join.mono _ _ _ _
      | exact gluepotref16_Texts.mono _ _
      | exact LeO.none _
      | refine LeO.ite ?_ ?_
      | refine LeO.bind ?_ (fun _ => ?_)
    · intro y0 y1 y2 y3 y4 y5 y6
      unfold gluepotref16_Learn.l0
      repeat' first
      | (with_reducible exact ih0 _ _ _ _ _)
      | (with_reducible exact ih1 _ _ _ _ _ _ _)
      | (with_reducible exact ih2 _ _ _ _ _)
      | (with_reducible exact ih3 _ _ _ _ _ _ _ _ _)
      | (with_reducible exact gluepotref08_Check.mono _ _)
      | (with_reducible exact gluepotref16_Join.mono _ _ _ _)
      | (with_reducible exact gluepotref16_Texts.mono _ _)
      | (with_reducible exact LeO.refl _)
      | (with_reducible exact LeO.none _)
      | (with_reducible refine LeO.ite ?_ ?_)
      | (with_reducible refine LeO.bind ?_ (fun _ => ?_))
      | exact ih0 _ _ _ _ _
      | exact ih1 _ _ _ _ _ _ _
      | exact ih2 _ _ _ _ _
      | exact ih3 _ _ _ _ _ _ _ _ _
      | exact gluepotref08_Check.mono _ _
      | exact gluepotref16_Join.mono _ _ _ _
      | exact gluepotref16_Texts.mono _ _
      | exact LeO.none _
      | refine LeO.ite ?_ ?_
      | refine LeO.bind ?_ (fun _ => ?_)
    · intro y0 y1 y2 y3 y4
      unfold gluepotref16_Learn.l1
      repeat' first
      | (with_reducible exact ih0 _ _ _ _ _)
      | (with_reducible exact ih1 _ _ _ _ _ _ _)
      | (with_reducible exact ih2 _ _ _ _ _)
      | (with_reducible exact ih3 _ _ _ _ _ _ _ _ _)
      | (with_reducible exact gluepotref08_Check.mono _ _)
      | (with_reducible exact gluepotref16_Join.mono _ _ _ _)
      | (with_reducible exact gluepotref16_Texts.mono _ _)
      | (with_reducible exact LeO.refl _)
      | (with_reducible exact LeO.none _)
      | (with_reducible refine LeO.ite ?_ ?_)
      | (with_reducible refine LeO.bind ?_ (fun _ => ?_))
      | exact ih0 _ _ _ _ _
      | exact ih1 _ _ _ _ _ _ _
      | exact ih2 _ _ _ _ _
      | exact ih3 _ _ _ _ _ _ _ _ _
      | exact gluepotref08_Check.mono _ _
      | exact gluepotref16_Join.mono _ _ _ _
      | exact gluepotref16_Texts.mono _ _
      | exact LeO.none _
      | refine LeO.ite ?_ ?_
      | refine LeO.bind ?_ (fun _ => ?_)
    · intro y0 y1 y2 y3 y4 y5 y6 y7 y8
      unfold gluepotref16_Learn.l2
      repeat' first
      | (with_reducible exact ih0 _ _ _ _ _)
      | (with_reducible exact ih1 _ _ _ _ _ _ _)
      | (with_reducible exact ih2 _ _ _ _ _)
      | (with_reducible exact ih3 _ _ _ _ _ _ _ _ _)
      | (with_reducible exact gluepotref08_Check.mono _ _)
      | (with_reducible exact gluepotref16_Join.mono _ _ _ _)
      | (with_reducible exact gluepotref16_Texts.mono _ _)
      | (with_reducible exact LeO.refl _)
      | (with_reducible exact LeO.none _)
      | (with_reducible refine LeO.ite ?_ ?_)
      | (with_reducible refine LeO.bind ?_ (fun _ => ?_))
      | exact ih0 _ _ _ _ _
      | exact ih1 _ _ _ _ _ _ _
      | exact ih2 _ _ _ _ _
      | exact ih3 _ _ _ _ _ _ _ _ _
      | exact gluepotref08_Check.mono _ _
      | exact gluepotref16_Join.mono _ _ _ _
      | exact gluepotref16_Texts.mono _ _
      | exact LeO.none _
      | refine LeO.ite ?_ ?_
      | refine LeO.bind ?_ (fun _ => ?_)
theorem gluepotref16_Learn.mono : ∀ a0 a1 a2 k, LeO (gluepotref16_Learn.f k a0 a1 a2) (gluepotref16_Learn.f (k + 1) a0 a1 a2) := by
  intro a0 a1 a2 k
  obtain ⟨ih0, ih1, ih2, ih3⟩ := gluepotref16_Learn.mono_l k
  unfold gluepotref16_Learn.f
  repeat' first
      | (with_reducible exact ih0 _ _ _ _ _)
      | (with_reducible exact ih1 _ _ _ _ _ _ _)
      | (with_reducible exact ih2 _ _ _ _ _)
      | (with_reducible exact ih3 _ _ _ _ _ _ _ _ _)
      | (with_reducible exact gluepotref08_Check.mono _ _)
      | (with_reducible exact gluepotref16_Join.mono _ _ _ _)
      | (with_reducible exact gluepotref16_Texts.mono _ _)
      | (with_reducible exact LeO.refl _)
      | (with_reducible exact LeO.none _)
      | (with_reducible refine LeO.ite ?_ ?_)
      | (with_reducible refine LeO.bind ?_ (fun _ => ?_))
      | exact ih0 _ _ _ _ _
      | exact ih1 _ _ _ _ _ _ _
      | exact ih2 _ _ _ _ _
      | exact ih3 _ _ _ _ _ _ _ _ _
      | exact gluepotref08_Check.mono _ _
      | exact gluepotref16_Join.mono _ _ _ _
      | exact gluepotref16_Texts.mono _ _
      | exact LeO.none _
      | refine LeO.ite ?_ ?_
      | refine LeO.bind ?_ (fun _ => ?_)
def gluepotref16_Learn.T21 : Bool × List (List Nat × List Nat) := (true, [([], []), ([], []), ([], []), ([1, 2], [1, 2]), ([3], [3]), ([], []), ([4, 5], [4, 5]), ([6], [6]), ([0, 7, 6], [0, 7]), ([8, 8, 0, 1, 2, 3, 4, 5, 6, 7, 8], [0, 8])])
def gluepotref16_Learn.B21 : List Nat := [0, 0, 0, 6, 14, 0, 62, 126, 255, 511]
theorem gluepotref16_Learn.tab21 : rtab .any (opsOf Try.f18 21) = gluepotref16_Learn.T21 := by kernel_rfl
theorem gluepotref16_Learn.bits21 : waitsOk gluepotref16_Learn.T21.2 gluepotref16_Learn.B21 = true := by kernel_rfl
set_option maxHeartbeats 8000000 in
set_option maxRecDepth 100000 in
theorem gluepotref16_Learn.calls (k : Nat) (A0 : Option Addr) (c0 : Nat) (l0 : List (S35)) (a1 : Int) (a2 : Int) (r : List (S45)) (w : World) (hr0 : Kd.C k35 w A0 l0.length l0) (hc0 : l0.length ≤ c0) (h : gluepotref16_Learn.f k l0 a1 a2 = some r) :
    Calls Try.prog 18 #[.slice A0 l0.length c0, .int .i64 a1, .int .i64 a2] w fun e w' => ∃ v0_ : Value, e = .returned (v0_) ∧ Kd.R k45 45 w' w.heap.size (fun _ => True) v0_ r ∧ Below w.heap.size w w' := by
  have hu45 := Try.underlying45
  have HR0 := Aside0.mk hr0
  have HC0 := Aside0.mk hc0
  clear hr0 hc0
  have HB := Aside0.mk (Below.refl w.heap.size w)
  have H : ((gluepotref08_Check.f k l0).bind fun bt275 => (if bt275.2 = 0 then (gluepotref16_Learn.j0 k l0 a1 a2 ([] : List (S45)) (decide (a2 < 1))) else (gluepotref16_Learn.j0 k l0 a1 a2 ([] : List (S45)) true))) = some r := h
  clear h
  replace H := Option.bind_eq_some_iff.mp H
  obtain ⟨⟨t275, t276⟩, A40, H⟩ := H
  replace H : (if t276 = 0 then (gluepotref16_Learn.j0 k l0 a1 a2 ([] : List (S45)) (decide (a2 < 1))) else (gluepotref16_Learn.j0 k l0 a1 a2 ([] : List (S45)) true)) = some r := H
  have A4 := Aside0.mk A40
  clear A40
  have HC5 := Aside0.mk H
  clear H
  go_enter Try.func18, Try.ntmps18
  go_upto_region 3 with (first | ((with_reducible refine gate_callee (f := 19) rfl ?_); refine goesL_ (some 19) rfl rfl Try.func19 (by kernel_rfl) rfl #[.slice A0 l0.length c0] rfl (by (try simp only [List.map_toArray, List.map_cons, List.map_nil]); first | done | rfl | (simp only [List.length_drop, List.length_take]; rfl)) ?_; (with_reducible refine (gluepotref08_Check.calls k _ _ l0 t275 t276 _ ?side1 ?side2 A4.out).mono ?_); (case side1 => repeat (first | exact HR0.out | (with_reducible refine Kd.C_alloc ?_ _) | (with_reducible refine Kd.C_drewN ?_ _) | (with_reducible refine Kd.C_drew ?_))); (case side2 => exact HC0.out); rintro e w6 ⟨rfl, hb⟩; refine ⟨_, rfl, ?_⟩; have n0_ := Aside0.mk (below_step (by repeat (first | (with_reducible first | exact HB.out | apply below_alloc | apply pw_below_drewN | apply below_drew1) | exact HB.out)) hb); clear HB; have HB := n0_; clear n0_; (try clear hb); (try clear hb2); (try clear hk); (try clear hi)))
  (try simp only [Act.put, List.setIfInBounds_toArray, List.set_cons_zero, List.set_cons_succ])
  go_cut [27] (fun v27 wc => ∃ (kq : Nat) (x27_4 : Bool), v27 = .bool x27_4 ∧ Aside0 (gluepotref16_Learn.j0 kq l0 a1 a2 ([] : List (S45)) x27_4 = some r) ∧ Aside0 (kq ≤ k) ∧ Aside0 (Kd.R k45 45 wc w.heap.size (fun _ => True) (.slice none 0 0) ([] : List (S45))) ∧ Aside0 (Below w.heap.size w wc))
  case first =>
    have H := HC5.out
    clear HC5
    by_cases c7 : t276 = 0
    · rw [if_pos c7] at H
      have c7b0 : (t276 == 0) = true := beq_iff_eq.mpr c7
      have c7b1 : (t276 != 0) = false := bne_eq_false_iff_eq.mpr c7
      clear c7
      (first | rw [c7b0] | (simp only [i64_w, i32_w]; rw [c7b0]) | skip)
      have H' := Aside0.mk H
      clear H
      go_wp2
      go_meet
      case rel => exact ⟨_, (decide (a2 < 1)), (by first | rfl | (simp; done) | (simp [*]; done)), H', ⟨by first | omega | exact Nat.le_refl _⟩, ⟨by first | exact Kd.R_nil _ _ _ _ _ | exact Kd.N_nil _ _ _ _ _ | exact Kd.V_nil _ _ _ _ _ | exact Kd.Q_nil _ _ _ _ _ | exact Kd.S_nil _ _ _ _ _⟩, ⟨by repeat (first | (with_reducible first | exact HB.out | apply below_alloc | apply pw_below_drewN | apply below_drew1) | exact HB.out)⟩⟩
    · rw [if_neg c7] at H
      have c7b0 : (t276 == 0) = false := beq_eq_false_iff_ne.mpr c7
      have c7b1 : (t276 != 0) = true := bne_iff_ne.mpr c7
      (first | rw [c7b0] | (simp only [i64_w, i32_w]; rw [c7b0]) | skip)
      have H' := Aside0.mk H
      clear H
      go_wp2
      go_meet
      case rel => exact ⟨_, (true), (by first | rfl | (simp; done) | (simp [*]; done)), H', ⟨by first | omega | exact Nat.le_refl _⟩, ⟨by first | exact Kd.R_nil _ _ _ _ _ | exact Kd.N_nil _ _ _ _ _ | exact Kd.V_nil _ _ _ _ _ | exact Kd.Q_nil _ _ _ _ _ | exact Kd.S_nil _ _ _ _ _⟩, ⟨by repeat (first | (with_reducible first | exact HB.out | apply below_alloc | apply pw_below_drewN | apply below_drew1) | exact HB.out)⟩⟩
  case rest =>
    clear HC5
    try clear c1
    try clear p2
    try clear c7
    try clear c7b0
    try clear c7b1
    obtain ⟨kq, x27_4, rfl, HA, HJ4, HO_7, HB⟩ := hcut
    cases kq with
    | zero => exact absurd HA.out (by simp [gluepotref16_Learn.j0])
    | succ kj4 =>
      have H := HA.out
      clear HA
      simp only [gluepotref16_Learn.j0] at H
      by_cases c8 : x27_4 = true
      · subst c8
        have H1 : (some ([] : List (S45))) = some r := by rw [if_pos rfl] at H; exact H
        clear H
        have H := H1
        clear H1
        obtain rfl := Option.some.inj H
        go_wp2
        go_ret
        exact ⟨_, by first | rfl | (simp [errW_none, errW_some] <;> rfl) | (simp [*, errW_none, errW_some] <;> rfl), by (with_reducible repeat (first | apply Kd.R_alloc | apply Kd.R_drewN | apply Kd.R_drew)); exact HO_7.out, by repeat (first | (with_reducible first | exact HB.out | apply below_alloc | apply pw_below_drewN | apply below_drew1) | exact HB.out)⟩
      · replace c8 := Bool.eq_false_iff.mpr c8
        subst c8
        have H1 : (gluepotref16_Learn.l0 kj4 l0 a1 a2 ([] : List (S45)) ([] : List (List ByteArray)) ([] : List Int) 0) = some r := by rw [if_neg (show ¬ (false = true) by decide)] at H; exact H
        clear H
        have H := H1
        clear H1
        have H' := Aside0.mk H
        clear H
        go_wp2
        go_loopg [10, 11, 12] kj4 (fun kq v10 v11 v12 w' => ∃ (x10_2 : List (List ByteArray)) (x11_2 : List Int) (x12_2 : Int), v12 = .int .i64 x12_2 ∧ Aside0 (gluepotref16_Learn.l0 kq l0 a1 a2 ([] : List (S45)) x10_2 x11_2 x12_2 = some r) ∧ Aside0 (kq ≤ kj4) ∧ Aside0 (Kd.R k45 45 w' w.heap.size (fun _ => True) (.slice none 0 0) ([] : List (S45))) ∧ Aside0 (Kd.S (Kd.slice 9 Kd.string) 46 w' w.heap.size (fun _ => True) v10 x10_2) ∧ Aside0 (Kd.R (Kd.int .i64) 3 w' w.heap.size (fun _ => True) v11 x11_2) ∧ Aside0 (Below w.heap.size w w'))
        case atStart => exact ⟨(([] : List (List ByteArray))), (([] : List Int)), (0), (by first | rfl | (simp; done) | (simp [*]; done)), H', ⟨Nat.le_refl _⟩, ⟨by (with_reducible repeat (first | apply Kd.R_alloc | apply Kd.R_drewN | apply Kd.R_drew)); exact HO_7.out⟩, ⟨by first | exact Kd.S_nil _ _ _ _ _ | exact Kd.N_nil _ _ _ _ _ | exact Kd.V_nil _ _ _ _ _ | exact Kd.Q_nil _ _ _ _ _ | exact Kd.R_nil _ _ _ _ _⟩, ⟨by first | exact Kd.R_nil _ _ _ _ _ | exact Kd.N_nil _ _ _ _ _ | exact Kd.V_nil _ _ _ _ _ | exact Kd.Q_nil _ _ _ _ _ | exact Kd.S_nil _ _ _ _ _⟩, ⟨by repeat (first | (with_reducible first | exact HB.out | apply below_alloc | apply pw_below_drewN | apply below_drew1) | exact HB.out)⟩⟩
        case round =>
          clear H'
          try clear c1
          try clear p2
          try clear c7
          try clear c7b0
          try clear c7b1
          try clear c8
          try clear p2
          obtain ⟨x10_2, x11_2, x12_2, rfl, HA, HK2, HO_7, HO_10, HO_11, HB⟩ := hrel
          cases gk with
          | zero => exact absurd HA.out (by simp [gluepotref16_Learn.l0])
          | succ k2 =>
            have H := HA.out
            clear HA
            simp only [gluepotref16_Learn.l0] at H
            by_cases c9 : x12_2 < (l0.length : Int)
            · rw [if_pos c9] at H
              have c9b0 : decide (x12_2 < (l0.length : Int)) = true := decide_eq_true c9
              clear c9
              by_cases c10 : 0 ≤ x12_2
              · rw [if_pos c10] at H
                have c10b0 : decide (0 ≤ x12_2) = true := decide_eq_true c10
                clear c10
                replace H := Option.bind_eq_some_iff.mp H
                obtain ⟨t278, A110, H⟩ := H
                replace H : (if x10_2.length < 5864062014805 then (if x11_2.length < 17592186044416 then (gluepotref16_Learn.l0 k2 l0 a1 a2 ([] : List (S45)) (x10_2 ++ [t278]) (x11_2 ++ [(rd_T35 l0 x12_2).f1]) (wrap64 (x12_2 + 1))) else (none)) else (none)) = some r := H
                have A11 := Aside0.mk A110
                clear A110
                by_cases c12 : x10_2.length < 5864062014805
                · rw [if_pos c12] at H
                  have LMc12 := Aside0.mk c12
                  clear c12
                  obtain ⟨y281, hy281⟩ : ∃ y_ : List (List ByteArray), y_ = (x10_2 ++ [t278]) := ⟨_, rfl⟩
                  replace H : (if x11_2.length < 17592186044416 then (gluepotref16_Learn.l0 k2 l0 a1 a2 ([] : List (S45)) y281 (x11_2 ++ [(rd_T35 l0 x12_2).f1]) (wrap64 (x12_2 + 1))) else (none)) = some r := by first | (rw [hy281]; with_reducible exact H) | (have H2_ := (Option.bind_some _ _).symm.trans H; rw [hy281]; with_reducible exact H2_) | (have H2_ := (Option.bind_some _ _).symm.trans H; with_reducible exact H2_) | with_reducible exact H | (rw [hy281]; exact H) | exact H
                  have Ny281 := Aside0.mk hy281
                  clear hy281
                  by_cases c13 : x11_2.length < 17592186044416
                  · rw [if_pos c13] at H
                    have LMc13 := Aside0.mk c13
                    clear c13
                    obtain ⟨y285, hy285⟩ : ∃ y_ : List Int, y_ = (x11_2 ++ [(rd_T35 l0 x12_2).f1]) := ⟨_, rfl⟩
                    replace H : (gluepotref16_Learn.l0 k2 l0 a1 a2 ([] : List (S45)) y281 y285 (wrap64 (x12_2 + 1))) = some r := by first | (rw [hy285]; with_reducible exact H) | (have H2_ := (Option.bind_some _ _).symm.trans H; rw [hy285]; with_reducible exact H2_) | (have H2_ := (Option.bind_some _ _).symm.trans H; with_reducible exact H2_) | with_reducible exact H | (rw [hy285]; exact H) | exact H
                    have Ny285 := Aside0.mk hy285
                    clear hy285
                    have H' := Aside0.mk H
                    clear H
                    have p277 : 0 ≤ (x12_2 : Int) := of_decide_eq_true (by first | (with_reducible assumption) | assumption)
                    have q277 : x12_2 < (l0.length : Int) := of_decide_eq_true (by first | (with_reducible assumption) | assumption)
                    obtain ⟨ad277, e277, hx277_0, hx277_1⟩ := at_T35 HR0.out x12_2 p277 q277
                    cases e277
                    replace hx277_0 := (HB.out.cell (World.block_lt_of_cell? w _ hx277_0)).trans hx277_0
                    replace hx277_1 := (HB.out.cell (World.block_lt_of_cell? w _ hx277_1)).trans hx277_1
                    replace p277 := eq_true p277
                    replace q277 := eq_true q277
                    go_wp2_with (first | ((with_reducible refine gate_callee (f := 38) rfl ?_); refine goesL_ (some 41) rfl rfl Try.func38 (by kernel_rfl) rfl #[.string ((rd_T35 l0 x12_2).f0)] rfl (by (try simp only [List.map_toArray, List.map_cons, List.map_nil]); first | done | rfl | (simp only [List.length_drop, List.length_take]; rfl)) ?_; (with_reducible refine (gluepotref16_Texts.calls k2 ((rd_T35 l0 x12_2).f0) t278 _ A11.out).mono ?_); rintro e w14 ⟨v279, rfl, ho0, hb⟩; refine ⟨_, rfl, ?_⟩; have n0_ := Aside0.mk (Kd.R_below (by (with_reducible repeat (first | apply Kd.R_alloc | apply Kd.R_drewN | apply Kd.R_drew)); exact HO_7.out) hb); have n1_ := Aside0.mk (Kd.S_elder' (by (with_reducible repeat (first | apply Kd.S_alloc | apply Kd.S_drewN | apply Kd.S_drew)); exact HO_10.out) (Kd.R_base ho0) hb); have n2_ := Aside0.mk (Kd.R_below (by (with_reducible repeat (first | apply Kd.R_alloc | apply Kd.R_drewN | apply Kd.R_drew)); exact HO_11.out) hb); have n3_ := Aside0.mk (Kd.R_lower ho0 (below_size (by repeat (first | (with_reducible first | exact HB.out | apply below_alloc | apply pw_below_drewN | apply below_drew1) | exact HB.out)))); have n4_ := Aside0.mk (below_step (by repeat (first | (with_reducible first | exact HB.out | apply below_alloc | apply pw_below_drewN | apply below_drew1) | exact HB.out)) hb); clear HO_7; clear HO_10; clear HO_11; clear HB; have HO_7 := n0_; have HO_10 := n1_; have HO_11 := n2_; have HO280 := n3_; have HB := n4_; clear n0_ n1_ n2_ n3_ n4_; (try clear hb); (try clear hb2); (try clear hk); (try clear hi); (try clear ho0); obtain ⟨Ao16, co16, eo16⟩ := Kd.R_slice HO280.out; subst eo16) | ((with_reducible refine gate_builtin (b := .append) (xs := #[.tmp 35, .tmp 42]) rfl ?_); at_builtin; refine Kd.S_append (Kd.slice 9 Kd.string) (w0 := w) w.heap.size rfl (.tmp 35) (.tmp 42) 43 46 (.slice none 0 0) 24 rfl Try.underlying43 info46 rfl (by decide) (by omega) u10 x10_2 t278 [.slice Ao16 t278.length co16] (fun _ => True) (fun k_ => some k_ = (.slice Ao16 t278.length co16 : Value).ownBlock) rfl rfl ?aP (fun k_ hk_ => ((Kd.R_mono (ok' := fun k_ => ((fun _ => True)) k_ ∧ some k_ ≠ (u10 : Value).ownBlock) (Kd.R_apart' (HO280.out) (Kd.S_typed HO_10.out) (by decide)) (fun k_ hk => ⟨trivial, hk.2⟩))).1 k_ hk_.symm) ?aF ?aO ?aB ?aS ?aL ?_; (case aP => exact Kd.M_row (Kd.R_mono (Kd.R_tight rfl (Kd.R_mono (ok' := fun k_ => ((fun _ => True)) k_ ∧ some k_ ≠ (u10 : Value).ownBlock) (Kd.R_apart' (HO280.out) (Kd.S_typed HO_10.out) (by decide)) (fun k_ hk => ⟨trivial, hk.2⟩))) (fun _ h_ => h_))); (case aB => exact (by repeat (first | (with_reducible first | exact HB.out | apply below_alloc | apply pw_below_drewN | apply below_drew1) | exact HB.out))); (case aF => exact (fun _ _ => trivial)); (case aO => exact (by (with_reducible repeat (first | apply Kd.S_alloc | apply Kd.S_drewN | apply Kd.S_drew)); exact Kd.S_mono HO_10.out (fun k_ hk => ⟨trivial, fun e_ => hk.2 e_⟩))); (case aS => exact (below_size (by repeat (first | (with_reducible first | exact HB.out | apply below_alloc | apply pw_below_drewN | apply below_drew1) | exact HB.out)))); (case aL => have := LMc12.out; omega); intro v282 w15 ho hb hg hat; rw [← Ny281.out] at ho; have n0_ := Aside0.mk (Kd.R_over' (by (with_reducible repeat (first | apply Kd.R_alloc | apply Kd.R_drewN | apply Kd.R_drew)); exact HO_7.out) (Kd.S_typed (by (with_reducible repeat (first | apply Kd.S_alloc | apply Kd.S_drewN | apply Kd.S_drew)); exact HO_10.out)) (by decide) hg); have n1_ := Aside0.mk (Kd.R_over' (by (with_reducible repeat (first | apply Kd.R_alloc | apply Kd.R_drewN | apply Kd.R_drew)); exact HO_11.out) (Kd.S_typed (by (with_reducible repeat (first | apply Kd.S_alloc | apply Kd.S_drewN | apply Kd.S_drew)); exact HO_10.out)) (by decide) hg); have n2_ := Aside0.mk (hb); have n3_ := Aside0.mk (ho); clear HO_7; clear HO_11; clear HB; clear HO_10; clear HO280; have HO_7 := n0_; have HO_11 := n1_; have HB := n2_; have HO283 := n3_; clear n0_ n1_ n2_ n3_; clear ho hb hg hat; have p284 : 0 ≤ (x12_2 : Int) := of_decide_eq_true (by first | (with_reducible assumption) | assumption); have q284 : x12_2 < (l0.length : Int) := of_decide_eq_true (by first | (with_reducible assumption) | assumption); obtain ⟨ad284, e284, hx284_0, hx284_1⟩ := at_T35 HR0.out x12_2 p284 q284; obtain rfl : ad277 = ad284 := (by injection e284); replace hx284_0 := (HB.out.cell (World.block_lt_of_cell? w _ hx284_0)).trans hx284_0; replace hx284_1 := (HB.out.cell (World.block_lt_of_cell? w _ hx284_1)).trans hx284_1; replace p284 := eq_true p284; replace q284 := eq_true q284) | ((with_reducible refine gate_builtin (b := .append) (xs := #[.tmp 44, .tmp 50]) rfl ?_); at_builtin; refine Kd.R_append (Kd.int .i64) (w0 := w) w.heap.size rfl (.tmp 44) (.tmp 50) 31 3 (.int .i64 0) 8 rfl Try.underlying31 info3 rfl (by decide) (by omega) u11 x11_2 ((rd_T35 l0 x12_2).f1) [.int .i64 ((rd_T35 l0 x12_2).f1)] (fun _ => True) (fun _ => False) rfl rfl ?aP (fun _ hk => hk.elim) ?aF ?aO ?aB ?aS ?aL ?_; (case aP => exact rfl); (case aB => exact (by repeat (first | (with_reducible first | exact HB.out | apply below_alloc | apply pw_below_drewN | apply below_drew1) | exact HB.out))); (case aF => exact (fun _ _ => trivial)); (case aO => exact (by (with_reducible repeat (first | apply Kd.R_alloc | apply Kd.R_drewN | apply Kd.R_drew)); exact HO_11.out)); (case aS => exact (below_size (by repeat (first | (with_reducible first | exact HB.out | apply below_alloc | apply pw_below_drewN | apply below_drew1) | exact HB.out)))); (case aL => have := LMc13.out; omega); intro v286 w17 ho hb hg hat; rw [← Ny285.out] at ho; have n0_ := Aside0.mk (Kd.R_over' (by (with_reducible repeat (first | apply Kd.R_alloc | apply Kd.R_drewN | apply Kd.R_drew)); exact HO_7.out) (Kd.R_typed (by (with_reducible repeat (first | apply Kd.R_alloc | apply Kd.R_drewN | apply Kd.R_drew)); exact HO_11.out)) (by decide) hg); have n1_ := Aside0.mk (Kd.S_over' (by (with_reducible repeat (first | apply Kd.S_alloc | apply Kd.S_drewN | apply Kd.S_drew)); exact HO283.out) (Kd.R_typed (by (with_reducible repeat (first | apply Kd.R_alloc | apply Kd.R_drewN | apply Kd.R_drew)); exact HO_11.out)) (by decide) hg); have n2_ := Aside0.mk (hb); have n3_ := Aside0.mk (ho); clear HO_7; clear HO283; clear HB; clear HO_11; have HO_7 := n0_; have HO283 := n1_; have HB := n2_; have HO287 := n3_; clear n0_ n1_ n2_ n3_; clear ho hb hg hat))
                    go_roundg k2
                    case measure => have := HJ4.out; have := HK2.out; omega
                    case rel => exact ⟨(y281), (y285), (wrap64 (x12_2 + 1)), (by first | rfl | (simp; done) | (simp [*]; done)), H', ⟨by have := HJ4.out; have := HK2.out; omega⟩, ⟨by (with_reducible repeat (first | apply Kd.R_alloc | apply Kd.R_drewN | apply Kd.R_drew)); exact HO_7.out⟩, ⟨by (with_reducible repeat (first | apply Kd.S_alloc | apply Kd.S_drewN | apply Kd.S_drew)); exact HO283.out⟩, ⟨by (with_reducible repeat (first | apply Kd.R_alloc | apply Kd.R_drewN | apply Kd.R_drew)); exact HO287.out⟩, ⟨by repeat (first | (with_reducible first | exact HB.out | apply below_alloc | apply pw_below_drewN | apply below_drew1) | exact HB.out)⟩⟩
                  · rw [if_neg c13] at H
                    exact absurd H (by simp)
                · rw [if_neg c12] at H
                  exact absurd H (by simp)
              · rw [if_neg c10] at H
                exact absurd H (by simp)
            · rw [if_neg c9] at H
              have c9b0 : decide (x12_2 < (l0.length : Int)) = false := decide_eq_false c9
              clear c9
              have H' := Aside0.mk H
              clear H
              go_wp2
              go_loopg [7, 10] k2 (fun kq v7 v10 w' => ∃ (x7_3 : List (S45)) (x10_3 : List (List ByteArray)), Aside0 (gluepotref16_Learn.l1 kq a1 a2 x7_3 x10_3 x11_2 = some r) ∧ Aside0 (kq ≤ k2) ∧ Aside0 (Kd.R k45 45 w' w.heap.size (fun _ => True) v7 x7_3) ∧ Aside0 (Kd.S (Kd.slice 9 Kd.string) 46 w' w.heap.size (fun _ => True) v10 x10_3) ∧ Aside0 (Kd.R (Kd.int .i64) 3 w' w.heap.size (fun _ => True) u11 x11_2) ∧ Aside0 (Below w.heap.size w w'))
              case atStart => exact ⟨(([] : List (S45))), (x10_2), H', ⟨Nat.le_refl _⟩, ⟨by (with_reducible repeat (first | apply Kd.R_alloc | apply Kd.R_drewN | apply Kd.R_drew)); exact HO_7.out⟩, ⟨by (with_reducible repeat (first | apply Kd.S_alloc | apply Kd.S_drewN | apply Kd.S_drew)); exact HO_10.out⟩, ⟨by (with_reducible repeat (first | apply Kd.R_alloc | apply Kd.R_drewN | apply Kd.R_drew)); exact HO_11.out⟩, ⟨by repeat (first | (with_reducible first | exact HB.out | apply below_alloc | apply pw_below_drewN | apply below_drew1) | exact HB.out)⟩⟩
              case round =>
                clear H'
                try clear c1
                try clear p2
                try clear q2
                try clear hx2
                try clear c3
                try clear p6
                try clear c7
                try clear c7b0
                try clear c7b1
                try clear c8
                try clear c9
                try clear c9b0
                try clear c10
                try clear c10b0
                try clear c12
                try clear c13
                try clear hx277_0
                try clear hx277_1
                try clear hx284_0
                try clear hx284_1
                try clear p2
                try clear p277
                try clear p284
                try clear q277
                try clear q284
                obtain ⟨x7_3, x10_3, HA, HK3, HO_7, HO_10, HO_11, HB⟩ := hrel
                cases gk with
                | zero => exact absurd HA.out (by simp [gluepotref16_Learn.l1])
                | succ k3 =>
                  have H := HA.out
                  clear HA
                  simp only [gluepotref16_Learn.l1] at H
                  by_cases c18 : (x7_3.length : Int) < a1
                  · rw [if_pos c18] at H
                    have c18b0 : decide ((x7_3.length : Int) < a1) = true := decide_eq_true c18
                    clear c18
                    replace H := Option.bind_eq_some_iff.mp H
                    obtain ⟨⟨t288, t289, t290⟩, A190, H⟩ := H
                    replace H : (if t290 < a2 then (some x7_3) else (if x7_3.length < 4398046511104 then (gluepotref16_Learn.l2 k3 a1 a2 (x7_3 ++ [(⟨t288, t289⟩ : S45)]) x10_3 x11_2 ([] : List (List ByteArray)) 0 t288 t289) else (none))) = some r := H
                    have A19 := Aside0.mk A190
                    clear A190
                    by_cases c20 : t290 < a2
                    · rw [if_pos c20] at H
                      have c20b0 : decide (t290 < a2) = true := decide_eq_true c20
                      clear c20
                      obtain rfl := Option.some.inj H
                      obtain ⟨Ao21, co21, eo21⟩ := Kd.R_slice HO_7.out
                      subst eo21
                      obtain ⟨Ao22, co22, eo22⟩ := Kd.S_slice HO_10.out
                      subst eo22
                      obtain ⟨Ao23, co23, eo23⟩ := Kd.R_slice HO_11.out
                      subst eo23
                      go_wp2_with (first | ((with_reducible refine gate_callee (f := 26) rfl ?_); refine goesL_ (some 59) rfl rfl Try.func26 (by kernel_rfl) rfl #[.slice Ao22 x10_3.length co22, .slice Ao23 x11_2.length co23] rfl (by (try simp only [List.map_toArray, List.map_cons, List.map_nil]); first | done | rfl | (simp only [List.length_drop, List.length_take]; rfl)) ?_; (with_reducible refine (gluepotref16_Best.calls _ _ x10_3 _ _ x11_2 t288 t289 t290 _ ?side1 ?side2 ?side3 ?side4 A19.out).mono ?_); (case side1 => repeat (first | exact (Kd.S_reads' HO_10.out).2.2 | (with_reducible refine Kd.C_alloc ?_ _) | (with_reducible refine Kd.C_drewN ?_ _) | (with_reducible refine Kd.C_drew ?_))); (case side2 => exact (Kd.S_reads' HO_10.out).2.1); (case side3 => repeat (first | exact (Kd.R_reads' HO_11.out).2.2 | (with_reducible refine Kd.C_alloc ?_ _) | (with_reducible refine Kd.C_drewN ?_ _) | (with_reducible refine Kd.C_drew ?_))); (case side4 => exact (Kd.R_reads' HO_11.out).2.1); rintro e w24 ⟨rfl, hb⟩; refine ⟨_, rfl, ?_⟩; have n0_ := Aside0.mk (Kd.R_below (by (with_reducible repeat (first | apply Kd.R_alloc | apply Kd.R_drewN | apply Kd.R_drew)); exact HO_7.out) hb); have n1_ := Aside0.mk (Kd.S_below (by (with_reducible repeat (first | apply Kd.S_alloc | apply Kd.S_drewN | apply Kd.S_drew)); exact HO_10.out) hb); have n2_ := Aside0.mk (Kd.R_below (by (with_reducible repeat (first | apply Kd.R_alloc | apply Kd.R_drewN | apply Kd.R_drew)); exact HO_11.out) hb); have n3_ := Aside0.mk (below_step (by repeat (first | (with_reducible first | exact HB.out | apply below_alloc | apply pw_below_drewN | apply below_drew1) | exact HB.out)) hb); clear HO_7; clear HO_10; clear HO_11; clear HB; have HO_7 := n0_; have HO_10 := n1_; have HO_11 := n2_; have HB := n3_; clear n0_ n1_ n2_ n3_; (try clear hb); (try clear hb2); (try clear hk); (try clear hi)) | ((with_reducible refine gate_dst (N := 13) rfl ?_); refine box_event ?hg (N := 13) ?hd (cs := #[.string (⟨#[]⟩ : ByteArray), .string (⟨#[]⟩ : ByteArray)]) (t := 45) ?hr ?_; (case hd => rfl); (case hg => rfl); (case hr => first | (go_simp; done) | (go_simp; rfl)); intro gb291 hg w25 hbox hb; have n0_ := Aside0.mk (Kd.R_below (Kd.R_elderB (by (with_reducible repeat (first | apply Kd.R_alloc | apply Kd.R_drewN | apply Kd.R_drew)); exact HO_7.out) gb291 (Nat.le_of_eq hg.symm)) hb); have n1_ := Aside0.mk (Kd.S_below (by (with_reducible repeat (first | apply Kd.S_alloc | apply Kd.S_drewN | apply Kd.S_drew)); exact HO_10.out) hb); have n2_ := Aside0.mk (Kd.R_below (by (with_reducible repeat (first | apply Kd.R_alloc | apply Kd.R_drewN | apply Kd.R_drew)); exact HO_11.out) hb); have n3_ := Aside0.mk (below_step (by repeat (first | (with_reducible first | exact HB.out | apply below_alloc | apply pw_below_drewN | apply below_drew1) | exact HB.out)) hb); have n4_ := Aside0.mk (hbox); have n5_ := Aside0.mk ((by rw [hg]; exact (below_size (by repeat (first | (with_reducible first | exact HB.out | apply below_alloc | apply pw_below_drewN | apply below_drew1) | exact HB.out))) : w.heap.size ≤ gb291)); have n6_ := Aside0.mk ((by rw [hg]; exact (below_size (by repeat (first | (with_reducible first | exact HB.out | apply below_alloc | apply pw_below_drewN | apply below_drew1) | exact HB.out))) : w.heap.size ≤ gb291)); clear HO_7; clear HO_10; clear HO_11; clear HB; have HO_7 := n0_; have HO_10 := n1_; have HO_11 := n2_; have HB := n3_; have BK291 := n4_; have GW291 := n5_; have GE291 := n6_; clear n0_ n1_ n2_ n3_ n4_ n5_ n6_; clear hb hbox hg; have hcz26_0 : w25.cell? ⟨gb291, 0, none⟩ = some (.string (⟨#[]⟩ : ByteArray)) := (blk_cell BK291.out 0).trans rfl; have hcz26_1 : w25.cell? ⟨gb291, 1, none⟩ = some (.string (⟨#[]⟩ : ByteArray)) := (blk_cell BK291.out 1).trans rfl; have hfz26_0 := blk_frozen BK291.out 0; have hfz26_1 := blk_frozen BK291.out 1))
                      go_ret
                      exact ⟨_, by first | rfl | (simp [errW_none, errW_some] <;> rfl) | (simp [*, errW_none, errW_some] <;> rfl), by (with_reducible repeat (first | apply Kd.R_alloc | apply Kd.R_drewN | apply Kd.R_drew)); exact Kd.R_mono (Kd.R_far (p := ⟨gb291, 1, none⟩) (Kd.R_far (p := ⟨gb291, 0, none⟩) (Kd.R_mono HO_7.out (fun k_ hk => (⟨hk, hk.2⟩ : _ ∧ k_ ≠ gb291))) (fun _ hk => hk.2) (.string t288)) (fun _ hk => hk.2) (.string t289)) (fun _ hk => trivial), by repeat (first | (with_reducible first | exact HB.out | apply below_alloc | apply pw_below_drewN | apply below_drew1 | refine below_set ?_ GE291.out) | exact HB.out)⟩
                    · rw [if_neg c20] at H
                      have c20b0 : decide (t290 < a2) = false := decide_eq_false c20
                      clear c20
                      by_cases c27 : x7_3.length < 4398046511104
                      · rw [if_pos c27] at H
                        have LMc27 := Aside0.mk c27
                        clear c27
                        obtain ⟨y292, hy292⟩ : ∃ y_ : List (S45), y_ = (x7_3 ++ [(⟨t288, t289⟩ : S45)]) := ⟨_, rfl⟩
                        replace H : (gluepotref16_Learn.l2 k3 a1 a2 y292 x10_3 x11_2 ([] : List (List ByteArray)) 0 t288 t289) = some r := by first | (rw [hy292]; with_reducible exact H) | (have H2_ := (Option.bind_some _ _).symm.trans H; rw [hy292]; with_reducible exact H2_) | (have H2_ := (Option.bind_some _ _).symm.trans H; with_reducible exact H2_) | with_reducible exact H | (rw [hy292]; exact H) | exact H
                        have Ny292 := Aside0.mk hy292
                        clear hy292
                        have H' := Aside0.mk H
                        clear H
                        obtain ⟨Ao28, co28, eo28⟩ := Kd.R_slice HO_7.out
                        subst eo28
                        obtain ⟨Ao29, co29, eo29⟩ := Kd.S_slice HO_10.out
                        subst eo29
                        obtain ⟨Ao30, co30, eo30⟩ := Kd.R_slice HO_11.out
                        subst eo30
                        go_wp2_with (first | ((with_reducible refine gate_callee (f := 26) rfl ?_); refine goesL_ (some 59) rfl rfl Try.func26 (by kernel_rfl) rfl #[.slice Ao29 x10_3.length co29, .slice Ao30 x11_2.length co30] rfl (by (try simp only [List.map_toArray, List.map_cons, List.map_nil]); first | done | rfl | (simp only [List.length_drop, List.length_take]; rfl)) ?_; (with_reducible refine (gluepotref16_Best.calls _ _ x10_3 _ _ x11_2 t288 t289 t290 _ ?side1 ?side2 ?side3 ?side4 A19.out).mono ?_); (case side1 => repeat (first | exact (Kd.S_reads' HO_10.out).2.2 | (with_reducible refine Kd.C_alloc ?_ _) | (with_reducible refine Kd.C_drewN ?_ _) | (with_reducible refine Kd.C_drew ?_))); (case side2 => exact (Kd.S_reads' HO_10.out).2.1); (case side3 => repeat (first | exact (Kd.R_reads' HO_11.out).2.2 | (with_reducible refine Kd.C_alloc ?_ _) | (with_reducible refine Kd.C_drewN ?_ _) | (with_reducible refine Kd.C_drew ?_))); (case side4 => exact (Kd.R_reads' HO_11.out).2.1); rintro e w31 ⟨rfl, hb⟩; refine ⟨_, rfl, ?_⟩; have n0_ := Aside0.mk (Kd.R_below (by (with_reducible repeat (first | apply Kd.R_alloc | apply Kd.R_drewN | apply Kd.R_drew)); exact HO_7.out) hb); have n1_ := Aside0.mk (Kd.S_below (by (with_reducible repeat (first | apply Kd.S_alloc | apply Kd.S_drewN | apply Kd.S_drew)); exact HO_10.out) hb); have n2_ := Aside0.mk (Kd.R_below (by (with_reducible repeat (first | apply Kd.R_alloc | apply Kd.R_drewN | apply Kd.R_drew)); exact HO_11.out) hb); have n3_ := Aside0.mk (below_step (by repeat (first | (with_reducible first | exact HB.out | apply below_alloc | apply pw_below_drewN | apply below_drew1) | exact HB.out)) hb); clear HO_7; clear HO_10; clear HO_11; clear HB; have HO_7 := n0_; have HO_10 := n1_; have HO_11 := n2_; have HB := n3_; clear n0_ n1_ n2_ n3_; (try clear hb); (try clear hb2); (try clear hk); (try clear hi)) | ((with_reducible refine gate_dst (N := 13) rfl ?_); refine box_event ?hg (N := 13) ?hd (cs := #[.string (⟨#[]⟩ : ByteArray), .string (⟨#[]⟩ : ByteArray)]) (t := 45) ?hr ?_; (case hd => rfl); (case hg => rfl); (case hr => first | (go_simp; done) | (go_simp; rfl)); intro gb291 hg w32 hbox hb; have n0_ := Aside0.mk (Kd.R_below (Kd.R_elderB (by (with_reducible repeat (first | apply Kd.R_alloc | apply Kd.R_drewN | apply Kd.R_drew)); exact HO_7.out) gb291 (Nat.le_of_eq hg.symm)) hb); have n1_ := Aside0.mk (Kd.S_below (by (with_reducible repeat (first | apply Kd.S_alloc | apply Kd.S_drewN | apply Kd.S_drew)); exact HO_10.out) hb); have n2_ := Aside0.mk (Kd.R_below (by (with_reducible repeat (first | apply Kd.R_alloc | apply Kd.R_drewN | apply Kd.R_drew)); exact HO_11.out) hb); have n3_ := Aside0.mk (below_step (by repeat (first | (with_reducible first | exact HB.out | apply below_alloc | apply pw_below_drewN | apply below_drew1) | exact HB.out)) hb); have n4_ := Aside0.mk (hbox); have n5_ := Aside0.mk ((by rw [hg]; exact (below_size (by repeat (first | (with_reducible first | exact HB.out | apply below_alloc | apply pw_below_drewN | apply below_drew1) | exact HB.out))) : w.heap.size ≤ gb291)); have n6_ := Aside0.mk ((by rw [hg]; exact (below_size (by repeat (first | (with_reducible first | exact HB.out | apply below_alloc | apply pw_below_drewN | apply below_drew1) | exact HB.out))) : w.heap.size ≤ gb291)); clear HO_7; clear HO_10; clear HO_11; clear HB; have HO_7 := n0_; have HO_10 := n1_; have HO_11 := n2_; have HB := n3_; have BK291 := n4_; have GW291 := n5_; have GE291 := n6_; clear n0_ n1_ n2_ n3_ n4_ n5_ n6_; clear hb hbox hg; have hcz33_0 : w32.cell? ⟨gb291, 0, none⟩ = some (.string (⟨#[]⟩ : ByteArray)) := (blk_cell BK291.out 0).trans rfl; have hcz33_1 : w32.cell? ⟨gb291, 1, none⟩ = some (.string (⟨#[]⟩ : ByteArray)) := (blk_cell BK291.out 1).trans rfl; have hfz33_0 := blk_frozen BK291.out 0; have hfz33_1 := blk_frozen BK291.out 1) | ((with_reducible refine gate_builtin (b := .append) (xs := #[.tmp 66, .tmp 68]) rfl ?_); at_builtin; refine Kd.R_append k45 (w0 := w) w.heap.size rfl (.tmp 66) (.tmp 68) 23 45 (.agg #[(.string ⟨#[]⟩), (.string ⟨#[]⟩)]) 32 rfl Try.underlying23 info45 rfl (by decide) (by omega) (.slice Ao28 x7_3.length co28) x7_3 (⟨t288, t289⟩ : S45) [.string t288, .string t289] (fun k_ => k_ ≠ gb291) (fun _ => False) rfl (by first | (go_simp; done) | (go_simp; rfl)) ?aP (fun _ hk => hk.elim) ?aF ?aO ?aB ?aS ?aL ?_; (case aP => exact k45_mkM _ _ _ (⟨t288, t289⟩ : S45)); (case aB => exact (by repeat (first | (with_reducible first | exact HB.out | apply below_alloc | apply pw_below_drewN | apply below_drew1 | refine below_set ?_ GE291.out) | exact HB.out))); (case aF => exact (fun k_ hk => Kd.freshB (g := gb291) (o := .cells #[.string t288, .string t289] 45 (0, 0)) (by (with_reducible repeat (first | refine blk_drewN ?_ _ | refine blk_drew ?_ | refine blk_alloc ?_ _)); refine blk_put (cs := #[.string t288, .string (⟨#[]⟩ : ByteArray)]) ?_ 1 _ rfl; (with_reducible repeat (first | refine blk_drewN ?_ _ | refine blk_drew ?_ | refine blk_alloc ?_ _)); refine blk_put (cs := #[.string (⟨#[]⟩ : ByteArray), .string (⟨#[]⟩ : ByteArray)]) ?_ 0 _ rfl; (with_reducible repeat (first | refine blk_drewN ?_ _ | refine blk_drew ?_ | refine blk_alloc ?_ _)); exact BK291.out) k_ hk)); (case aO => exact (by (with_reducible repeat (first | apply Kd.R_alloc | apply Kd.R_drewN | apply Kd.R_drew)); exact Kd.R_mono (Kd.R_far (p := ⟨gb291, 1, none⟩) (Kd.R_far (p := ⟨gb291, 0, none⟩) (Kd.R_mono HO_7.out (fun k_ hk => (⟨hk, hk.2⟩ : _ ∧ k_ ≠ gb291))) (fun _ hk => hk.2) (.string t288)) (fun _ hk => hk.2) (.string t289)) (fun _ hk => hk.1.2))); (case aS => exact (below_size (by repeat (first | (with_reducible first | exact HB.out | apply below_alloc | apply pw_below_drewN | apply below_drew1 | refine below_set ?_ GE291.out) | exact HB.out)))); (case aL => have := LMc27.out; omega); intro v293 w34 ho hb hg hat; rw [← Ny292.out] at ho; have n0_ := Aside0.mk (Kd.S_over' (by (with_reducible repeat (first | apply Kd.S_alloc | apply Kd.S_drewN | apply Kd.S_drew)); exact (Kd.S_mono (Kd.S_far (p := ⟨gb291, 1, none⟩) (Kd.S_far (p := ⟨gb291, 0, none⟩) (Kd.S_types HO_10.out BK291.out (by decide)) (fun _ hk => hk.2) (.string t288)) (fun _ hk => hk.2) (.string t289)) (fun _ h_ => h_.1))) (Kd.R_typed (by (with_reducible repeat (first | apply Kd.R_alloc | apply Kd.R_drewN | apply Kd.R_drew)); exact (Kd.R_mono (Kd.R_far (p := ⟨gb291, 1, none⟩) (Kd.R_far (p := ⟨gb291, 0, none⟩) (Kd.R_mono HO_7.out (fun k_ hk => (⟨hk, hk.2⟩ : _ ∧ k_ ≠ gb291))) (fun _ hk => hk.2) (.string t288)) (fun _ hk => hk.2) (.string t289)) (fun _ h_ => h_.1)))) (by decide) hg); have n1_ := Aside0.mk (Kd.R_over' (by (with_reducible repeat (first | apply Kd.R_alloc | apply Kd.R_drewN | apply Kd.R_drew)); exact (Kd.R_mono (Kd.R_far (p := ⟨gb291, 1, none⟩) (Kd.R_far (p := ⟨gb291, 0, none⟩) (Kd.R_types HO_11.out BK291.out (by decide)) (fun _ hk => hk.2) (.string t288)) (fun _ hk => hk.2) (.string t289)) (fun _ h_ => h_.1))) (Kd.R_typed (by (with_reducible repeat (first | apply Kd.R_alloc | apply Kd.R_drewN | apply Kd.R_drew)); exact (Kd.R_mono (Kd.R_far (p := ⟨gb291, 1, none⟩) (Kd.R_far (p := ⟨gb291, 0, none⟩) (Kd.R_mono HO_7.out (fun k_ hk => (⟨hk, hk.2⟩ : _ ∧ k_ ≠ gb291))) (fun _ hk => hk.2) (.string t288)) (fun _ hk => hk.2) (.string t289)) (fun _ h_ => h_.1)))) (by decide) hg); have n2_ := Aside0.mk (blk_grown (g := gb291) (o := .cells #[.string t288, .string t289] 45 (0, 0)) (by (with_reducible repeat (first | refine blk_drewN ?_ _ | refine blk_drew ?_ | refine blk_alloc ?_ _)); refine blk_put (cs := #[.string t288, .string (⟨#[]⟩ : ByteArray)]) ?_ 1 _ rfl; (with_reducible repeat (first | refine blk_drewN ?_ _ | refine blk_drew ?_ | refine blk_alloc ?_ _)); refine blk_put (cs := #[.string (⟨#[]⟩ : ByteArray), .string (⟨#[]⟩ : ByteArray)]) ?_ 0 _ rfl; (with_reducible repeat (first | refine blk_drewN ?_ _ | refine blk_drew ?_ | refine blk_alloc ?_ _)); exact BK291.out) hg (Kd.R_away HO_7.out (fun _ hk => hk.2))); have n3_ := Aside0.mk (hb); have n4_ := Aside0.mk (ho); clear HO_10; clear HO_11; clear BK291; clear HB; clear HO_7; have HO_10 := n0_; have HO_11 := n1_; have BK291 := n2_; have HB := n3_; have HO294 := n4_; clear n0_ n1_ n2_ n3_ n4_; clear ho hb hg hat))
                        go_loopg [15, 16] k3 (fun kq v15 v16 w' => ∃ (x15_4 : List (List ByteArray)) (x16_4 : Int), v16 = .int .i64 x16_4 ∧ Aside0 (gluepotref16_Learn.l2 kq a1 a2 y292 x10_3 x11_2 x15_4 x16_4 t288 t289 = some r) ∧ Aside0 (kq ≤ k3) ∧ Aside0 (Kd.R k45 45 w' w.heap.size (fun k_ => k_ ≠ gb291) v293 y292) ∧ Aside0 (Kd.S (Kd.slice 9 Kd.string) 46 w' w.heap.size (fun k_ => some k_ ≠ (v15 : Value).ownBlock) (.slice Ao29 x10_3.length co29) x10_3) ∧ Aside0 (Kd.R (Kd.int .i64) 3 w' w.heap.size (fun _ => True) (.slice Ao30 x11_2.length co30) x11_2) ∧ Aside0 (Kd.S (Kd.slice 9 Kd.string) 46 w' w.heap.size (fun k_ => some k_ ≠ ((.slice Ao29 x10_3.length co29) : Value).ownBlock) v15 x15_4) ∧ Aside0 (w'.heap[gb291]? = some (.cells #[.string t288, .string t289] 45 (0, 0))) ∧ Aside0 (Below w.heap.size w w'))
                        case atStart => exact ⟨(([] : List (List ByteArray))), (0), (by first | rfl | (simp; done) | (simp [*]; done)), H', ⟨Nat.le_refl _⟩, ⟨by (with_reducible repeat (first | apply Kd.R_alloc | apply Kd.R_drewN | apply Kd.R_drew)); exact HO294.out⟩, ⟨by (with_reducible repeat (first | apply Kd.S_alloc | apply Kd.S_drewN | apply Kd.S_drew)); exact Kd.S_mono HO_10.out (fun _ hk => (by simp [Value.ownBlock]))⟩, ⟨by (with_reducible repeat (first | apply Kd.R_alloc | apply Kd.R_drewN | apply Kd.R_drew)); exact HO_11.out⟩, ⟨by first | exact Kd.S_nil _ _ _ _ _ | exact Kd.N_nil _ _ _ _ _ | exact Kd.V_nil _ _ _ _ _ | exact Kd.Q_nil _ _ _ _ _ | exact Kd.R_nil _ _ _ _ _⟩, ⟨by (with_reducible repeat (first | refine blk_drewN ?_ _ | refine blk_drew ?_ | refine blk_alloc ?_ _)); exact BK291.out⟩, ⟨by repeat (first | (with_reducible first | exact HB.out | apply below_alloc | apply pw_below_drewN | apply below_drew1 | refine below_set ?_ GE291.out) | exact HB.out)⟩⟩
                        case round =>
                          clear H'
                          try clear c1
                          try clear c2
                          try clear p2
                          try clear q2
                          try clear hx2
                          try clear c3
                          try clear p6
                          try clear c7
                          try clear c7b0
                          try clear c7b1
                          try clear c8
                          try clear c9
                          try clear c9b0
                          try clear c10
                          try clear c10b0
                          try clear c12
                          try clear c13
                          try clear c18
                          try clear c18b0
                          try clear c19
                          try clear c20
                          try clear c20b0
                          try clear c26
                          try clear c27
                          try clear p27
                          try clear q27
                          try clear hx27
                          try clear p28
                          try clear q28
                          try clear hx28
                          try clear hcz26_0
                          try clear hcz26_1
                          try clear hcz33_0
                          try clear hcz33_1
                          try clear hfz26_0
                          try clear hfz26_1
                          try clear hfz33_0
                          try clear hfz33_1
                          try clear hx277_0
                          try clear hx277_1
                          try clear hx284_0
                          try clear hx284_1
                          try clear p2
                          try clear p277
                          try clear p284
                          try clear p6
                          try clear q2
                          try clear q277
                          try clear q284
                          obtain ⟨x15_4, x16_4, rfl, HA, HK4, HO_7, HO_10, HO_11, HO_15, BK291, HB⟩ := hrel
                          cases gk with
                          | zero => exact absurd HA.out (by simp [gluepotref16_Learn.l2])
                          | succ k4 =>
                            have H := HA.out
                            clear HA
                            simp only [gluepotref16_Learn.l2] at H
                            by_cases c35 : x16_4 < (x10_3.length : Int)
                            · rw [if_pos c35] at H
                              have c35b0 : decide (x16_4 < (x10_3.length : Int)) = true := decide_eq_true c35
                              clear c35
                              by_cases c36 : 0 ≤ x16_4
                              · rw [if_pos c36] at H
                                have c36b0 : decide (0 ≤ x16_4) = true := decide_eq_true c36
                                clear c36
                                replace H := Option.bind_eq_some_iff.mp H
                                obtain ⟨t296, A370, H⟩ := H
                                replace H : (if x15_4.length < 5864062014805 then (gluepotref16_Learn.l2 k4 a1 a2 y292 x10_3 x11_2 (x15_4 ++ [t296]) (wrap64 (x16_4 + 1)) t288 t289) else (none)) = some r := H
                                have A37 := Aside0.mk A370
                                clear A370
                                by_cases c38 : x15_4.length < 5864062014805
                                · rw [if_pos c38] at H
                                  have LMc38 := Aside0.mk c38
                                  clear c38
                                  obtain ⟨y299, hy299⟩ : ∃ y_ : List (List ByteArray), y_ = (x15_4 ++ [t296]) := ⟨_, rfl⟩
                                  replace H : (gluepotref16_Learn.l2 k4 a1 a2 y292 x10_3 x11_2 y299 (wrap64 (x16_4 + 1)) t288 t289) = some r := by first | (rw [hy299]; with_reducible exact H) | (have H2_ := (Option.bind_some _ _).symm.trans H; rw [hy299]; with_reducible exact H2_) | (have H2_ := (Option.bind_some _ _).symm.trans H; with_reducible exact H2_) | with_reducible exact H | (rw [hy299]; exact H) | exact H
                                  have Ny299 := Aside0.mk hy299
                                  clear hy299
                                  have H' := Aside0.mk H
                                  clear H
                                  try go_wp2
                                  have n0_ := Aside0.mk (Kd.R_drew HO_7.out)
                                  have n1_ := Aside0.mk (Kd.S_drew HO_10.out)
                                  have n2_ := Aside0.mk (Kd.R_drew HO_11.out)
                                  have n3_ := Aside0.mk (Kd.S_drew HO_15.out)
                                  have n4_ := Aside0.mk (blk_drew BK291.out)
                                  have n5_ := Aside0.mk (below_drew1 HB.out)
                                  clear HO_7
                                  clear HO_10
                                  clear HO_11
                                  clear HO_15
                                  clear BK291
                                  clear HB
                                  have HO_7 := n0_
                                  have HO_10 := n1_
                                  have HO_11 := n2_
                                  have HO_15 := n3_
                                  have BK291 := n4_
                                  have HB := n5_
                                  clear n0_ n1_ n2_ n3_ n4_ n5_
                                  have p295 : 0 ≤ (x16_4 : Int) := of_decide_eq_true (by first | (with_reducible assumption) | assumption)
                                  have q295 : x16_4 < (x10_3.length : Int) := of_decide_eq_true (by first | (with_reducible assumption) | assumption)
                                  obtain ⟨ad295, A295_0, c295_0, e295, hx295_0, hl295_0, hi295_0⟩ := at_L4 (Kd.S_reads' HO_10.out).2.2 x16_4 p295 q295
                                  cases e295
                                  obtain ⟨ce295, hce295, hMe295, hcc295⟩ := Kd.S_get HO_10.out [] x16_4 p295 (by first | exact q295 | exact of_decide_eq_true (by first | (with_reducible assumption) | assumption) | (have e_ := (Kd.S_reads' HO_10.out).1; omega))
                                  obtain ⟨ve295_0, rfl, ge295_0⟩ := hMe295
                                  have hv295_0 := hcc295 0 _ rfl
                                  rw [Nat.add_zero, show ((Kd.slice 9 Kd.string)).sz = 1 from rfl, Nat.mul_one] at hv295_0
                                  replace hv295_0 := Option.some.inj (hv295_0.symm.trans hx295_0)
                                  rw [hv295_0] at ge295_0
                                  have HL295_0 := Aside0.mk (show Kd.R Kd.string 9 _ _ _ _ (rd_L4 x10_3 x16_4) from ge295_0)
                                  clear hv295_0 ge295_0
                                  clear hcc295 hce295
                                  have HR295_0 := Aside0.mk hi295_0
                                  have HC295_0 := Aside0.mk hl295_0
                                  clear hi295_0 hl295_0
                                  replace p295 := eq_true p295
                                  replace q295 := eq_true q295
                                  refine start_ (n := 10) (S := fun w' => w'.cell? ⟨gb291, 0, none⟩ = some (.string t288) ∧ w'.cell? ⟨gb291, 1, none⟩ = some (.string t289) ∧ w'.cell? (ad295.add (x16_4).toNat) = some (.slice A295_0 (rd_L4 x10_3 x16_4).length c295_0)) (ds := [7, 8]) #[false, false, false, false, false, false, false, false, false, false] (by kernel_rfl) rfl rfl ⟨(blk_cell BK291.out 0).trans rfl, (blk_cell BK291.out 1).trans rfl, hx295_0⟩ (fun hHeld => ?_); refine with_tabW gluepotref16_Learn.tab21 gluepotref16_Learn.bits21 (fun HT_ HW_ => ?_)
                                  generalize wr.drew = w39 at HO_7 HO_10 HO_11 HO_15 BK291 HB HL295_0 HR295_0 hx295_0 hHeld ⊢
                                  refine pure_ (i := 0) (N := some 76) (v := ?_) (a' := ?_) #[true, false, false, false, false, false, false, false, false, false] rfl rfl (any_of HT_.out (by kernel_rfl)) (fun _ _ _ h => h) (Or.inl ⟨by rfl, ?_⟩) ?_ ?_
                                  rotate_left
                                  · intro w'
                                    go_simp
                                    with_reducible rfl
                                  rotate_left
                                  · simp only [Act.put, List.setIfInBounds_toArray, List.set_cons_zero, List.set_cons_succ, i64_w, i32_w]
                                    rfl
                                  refine pure_ (i := 1) (N := some 77) (v := ?_) (a' := ?_) #[true, true, false, false, false, false, false, false, false, false] rfl rfl (any_of HT_.out (by kernel_rfl)) (fun _ _ _ h => h) (Or.inl ⟨by rfl, ?_⟩) ?_ ?_
                                  rotate_left
                                  · intro w'
                                    go_simp
                                    with_reducible rfl
                                  rotate_left
                                  · simp only [Act.put, List.setIfInBounds_toArray, List.set_cons_zero, List.set_cons_succ, i64_w, i32_w]
                                    rfl
                                  refine pure_ (i := 2) (N := some 78) (v := ?_) (a' := ?_) #[true, true, true, false, false, false, false, false, false, false] rfl rfl (any_of HT_.out (by kernel_rfl)) (fun _ _ _ h => h) (Or.inl ⟨by rfl, ?_⟩) ?_ ?_
                                  rotate_left
                                  · intro w'
                                    go_simp
                                    with_reducible rfl
                                  rotate_left
                                  · simp only [Act.put, List.setIfInBounds_toArray, List.set_cons_zero, List.set_cons_succ, i64_w, i32_w]
                                    rfl
                                  refine pure_ (i := 3) (N := some 79) (v := ?_) (a' := ?_) #[true, true, true, true, false, false, false, false, false, false] rfl rfl (any_of HT_.out (by kernel_rfl)) (fun _ _ _ h => h) (Or.inl ⟨by rfl, ?_⟩) ?_ ?_
                                  rotate_left
                                  · intro w'
                                    go_simp
                                    with_reducible rfl
                                  rotate_left
                                  · simp only [Act.put, List.setIfInBounds_toArray, List.set_cons_zero, List.set_cons_succ, i64_w, i32_w]
                                    rfl
                                  refine take_ (i := 4) (N := some 80) (v := ?_) (a' := ?_) #[true, true, true, true, true, false, false, false, false, false] rfl rfl (take_ofW HT_.out HW_.out (by kernel_rfl)) (fun _ _ _ h => h) (Or.inl ⟨by rfl, ?_⟩) hHeld ?_ ?_
                                  rotate_left
                                  · rintro w' ⟨s0, s1, s2⟩
                                    go_simp
                                    with_reducible rfl
                                  rotate_left
                                  · simp only [Act.put, List.setIfInBounds_toArray, List.set_cons_zero, List.set_cons_succ, i64_w, i32_w]
                                    rfl
                                  refine take_ (i := 5) (N := some 81) (v := ?_) (a' := ?_) #[true, true, true, true, true, true, false, false, false, false] rfl rfl (take_ofW HT_.out HW_.out (by kernel_rfl)) (fun _ _ _ h => h) (Or.inl ⟨by rfl, ?_⟩) hHeld ?_ ?_
                                  rotate_left
                                  · rintro w' ⟨s0, s1, s2⟩
                                    go_simp
                                    with_reducible rfl
                                  rotate_left
                                  · simp only [Act.put, List.setIfInBounds_toArray, List.set_cons_zero, List.set_cons_succ, i64_w, i32_w]
                                    rfl
                                  refine one_ (i := 6) (N := some 82) #[true, true, true, true, true, true, true, false, false, false] rfl rfl (one_of HT_.out (by kernel_rfl)) (by decide) (fun K hK => ?_)
                                  refine goes_ Try.func29 (by kernel_rfl) rfl #[.slice A295_0 (rd_L4 x10_3 x16_4).length c295_0, .agg #[.string t288, .string t289]] (by rfl) rfl rfl (by (try simp only [List.map_toArray, List.map_cons, List.map_nil]); first | done | rfl | (simp only [List.length_drop, List.length_take]; rfl)) ?_
                                  with_reducible refine (gluepotref16_Join.calls k4 _ _ (rd_L4 x10_3 x16_4) t288 t289 t296 _ ?side1 ?side2 A37.out).mono ?_
                                  (case side1 => repeat (first | exact (by repeat (first | (with_reducible exact HR295_0.out) | (with_reducible refine Kd.C_alloc ?_ _) | (with_reducible refine Kd.C_drewN ?_ _) | (with_reducible refine Kd.C_drew ?_) | exact HR295_0.out)) | (with_reducible refine Kd.C_alloc ?_ _) | (with_reducible refine Kd.C_drewN ?_ _) | (with_reducible refine Kd.C_drew ?_)))
                                  (case side2 => exact HC295_0.out)
                                  rintro e w40 ⟨v297, rfl, ho0, hb⟩
                                  have HS2_ := (hb.cell (World.block_lt_of_cell? _ _ (hHeld.2.2))).trans (hHeld.2.2)
                                  refine ⟨_, rfl, ?_⟩
                                  have n0_ := Aside0.mk (Kd.R_below (by (with_reducible repeat (first | apply Kd.R_alloc | apply Kd.R_drewN | apply Kd.R_drew)); exact HO_7.out) hb)
                                  have n1_ := Aside0.mk (Kd.S_elder' (by (with_reducible repeat (first | apply Kd.S_alloc | apply Kd.S_drewN | apply Kd.S_drew)); exact HO_10.out) (Kd.R_base ho0) hb)
                                  have n2_ := Aside0.mk (Kd.R_below (by (with_reducible repeat (first | apply Kd.R_alloc | apply Kd.R_drewN | apply Kd.R_drew)); exact HO_11.out) hb)
                                  have n3_ := Aside0.mk (Kd.S_elder' (by (with_reducible repeat (first | apply Kd.S_alloc | apply Kd.S_drewN | apply Kd.S_drew)); exact HO_15.out) (Kd.R_base ho0) hb)
                                  have n4_ := Aside0.mk (Kd.R_elder' (by (with_reducible repeat (first | apply Kd.R_alloc | apply Kd.R_drewN | apply Kd.R_drew)); exact HL295_0.out) (Kd.R_base ho0) hb)
                                  have n5_ := Aside0.mk (Kd.R_lower (Kd.R_new' ho0 (Kd.R_lt (by (with_reducible repeat (first | apply Kd.R_alloc | apply Kd.R_drewN | apply Kd.R_drew)); exact HL295_0.out))) (below_size (by repeat (first | (with_reducible first | exact HB.out | apply below_alloc | apply pw_below_drewN | apply below_drew1 | refine below_set ?_ GE291.out) | exact HB.out))))
                                  have n6_ := Aside0.mk (blk_below (g := gb291) (o := .cells #[.string t288, .string t289] 45 (0, 0)) (by (with_reducible repeat (first | refine blk_drewN ?_ _ | refine blk_drew ?_ | refine blk_alloc ?_ _)); exact BK291.out) hb)
                                  have n7_ := Aside0.mk (Kd.C_below (by repeat (first | (with_reducible exact HR295_0.out) | (with_reducible refine Kd.C_alloc ?_ _) | (with_reducible refine Kd.C_drewN ?_ _) | (with_reducible refine Kd.C_drew ?_) | exact HR295_0.out)) hb)
                                  have n8_ := Aside0.mk (below_step (by repeat (first | (with_reducible first | exact HB.out | apply below_alloc | apply pw_below_drewN | apply below_drew1 | refine below_set ?_ GE291.out) | exact HB.out)) hb)
                                  clear HO_7
                                  clear HO_10
                                  clear HO_11
                                  clear HO_15
                                  clear HL295_0
                                  clear BK291
                                  clear HR295_0
                                  clear HB
                                  have HO_7 := n0_
                                  have HO_10 := n1_
                                  have HO_11 := n2_
                                  have HO_15 := n3_
                                  have HL295_0 := n4_
                                  have HO298 := n5_
                                  have BK291 := n6_
                                  have HR295_0 := n7_
                                  have HB := n8_
                                  clear n0_ n1_ n2_ n3_ n4_ n5_ n6_ n7_ n8_
                                  (try clear hb)
                                  (try clear hb2)
                                  (try clear hk)
                                  (try clear hi)
                                  (try clear ho0)
                                  obtain ⟨Ao42, co42, eo42⟩ := Kd.R_slice HO298.out
                                  (first | subst eo42 | (injection eo42 with f1_ f2_ f3_; have f4_ := f1_.symm; have f5_ := f3_.symm; clear f1_ f2_ f3_; subst f4_; subst f5_))
                                  refine hK.out _ _ ⟨(blk_cell BK291.out 0).trans rfl, (blk_cell BK291.out 1).trans rfl, HS2_⟩ (fun hHeld => ?_)
                                  clear hK K
                                  refine norm_ (a' := ?_) ?_ ?_
                                  rotate_left
                                  · show Act.put _ (some 82) _ = _
                                    simp only [Act.put, List.setIfInBounds_toArray, List.set_cons_zero, List.set_cons_succ, i64_w, i32_w]
                                    rfl
                                  refine last_ (i := 7) (N := some 83) #[true, true, true, true, true, true, true, true, false, false] rfl rfl (one_of HT_.out (by kernel_rfl)) (by decide) (fun K hK => ?_)
                                  refine value_ (w1 := ?_) (v := ?_) (by rfl) rfl ?_ ?_
                                  rotate_left 2
                                  · go_simp
                                    constructor
                                    · rfl
                                    · rfl
                                  refine hK.out _ _ ?_
                                  clear hK K
                                  refine norm_ (a' := ?_) ?_ ?_
                                  rotate_left
                                  · show Act.put _ (some 83) _ = _
                                    simp only [Act.put, List.setIfInBounds_toArray, List.set_cons_zero, List.set_cons_succ, i64_w, i32_w]
                                    rfl
                                  refine last_ (i := 8) (N := some 84) #[true, true, true, true, true, true, true, true, true, false] rfl rfl (one_of HT_.out (by kernel_rfl)) (by decide) (fun K hK => ?_)
                                  refine Kd.S_append_step (Kd.slice 9 Kd.string) (w0 := w) w.heap.size (by rfl) (.tmp 76) (.tmp 83) 43 46 (.slice none 0 0) 24 rfl Try.underlying43 info46 rfl (by decide) (by omega) u15 x15_4 t296 [.slice Ao42 t296.length co42] (fun k_ => some k_ ≠ (.slice (some ad295) x10_3.length co29 : Value).ownBlock) (fun k_ => some k_ = (.slice Ao42 t296.length co42 : Value).ownBlock) rfl rfl ?aP (fun k_ hk_ => ((Kd.R_mono (ok' := fun k_ => ((fun k_ => some k_ ≠ (.slice (some ad295) x10_3.length co29 : Value).ownBlock)) k_ ∧ some k_ ≠ (u15 : Value).ownBlock) (Kd.R_apart' (Kd.R_apart' (HO298.out) (Kd.S_typed HO_10.out) (by decide)) (Kd.S_typed HO_15.out) (by decide)) (fun k_ hk => ⟨hk.1.2, hk.2⟩))).1 k_ hk_.symm) ?aF ?aO ?aB ?aS ?aL ?_
                                  (case aP => exact Kd.M_row (Kd.R_mono (Kd.R_tight rfl (Kd.R_mono (ok' := fun k_ => ((fun k_ => some k_ ≠ (.slice (some ad295) x10_3.length co29 : Value).ownBlock)) k_ ∧ some k_ ≠ (u15 : Value).ownBlock) (Kd.R_apart' (Kd.R_apart' (HO298.out) (Kd.S_typed HO_10.out) (by decide)) (Kd.S_typed HO_15.out) (by decide)) (fun k_ hk => ⟨hk.1.2, hk.2⟩))) (fun _ h_ => h_)))
                                  (case aB => exact (by repeat (first | (with_reducible first | exact HB.out | apply below_alloc | apply pw_below_drewN | apply below_drew1 | refine below_set ?_ GE291.out) | exact HB.out)))
                                  (case aF => exact (fun k_ hk => Kd.fresh' (Kd.S_lt (by (with_reducible repeat (first | apply Kd.S_alloc | apply Kd.S_drewN | apply Kd.S_drew)); exact HO_10.out)) k_ hk))
                                  (case aO => exact (by (with_reducible repeat (first | apply Kd.S_alloc | apply Kd.S_drewN | apply Kd.S_drew)); exact Kd.S_mono HO_15.out (fun k_ hk => ⟨hk.1, fun e_ => hk.2 e_⟩)))
                                  (case aS => exact (below_size (by repeat (first | (with_reducible first | exact HB.out | apply below_alloc | apply pw_below_drewN | apply below_drew1 | refine below_set ?_ GE291.out) | exact HB.out))))
                                  (case aL => have := LMc38.out; omega)
                                  intro v300 w41 ho hb hg hat
                                  rw [← Ny299.out] at ho
                                  have n0_ := Aside0.mk (Kd.R_over' (by (with_reducible repeat (first | apply Kd.R_alloc | apply Kd.R_drewN | apply Kd.R_drew)); exact HO_7.out) (Kd.S_typed (by (with_reducible repeat (first | apply Kd.S_alloc | apply Kd.S_drewN | apply Kd.S_drew)); exact HO_15.out)) (by decide) hg)
                                  have n1_ := Aside0.mk (Kd.S_after (ok := (fun k_ => some k_ ≠ (.slice Ao42 t296.length co42 : Value).ownBlock)) (by (with_reducible repeat (first | apply Kd.S_alloc | apply Kd.S_drewN | apply Kd.S_drew)); exact Kd.S_mono HO_10.out (fun _ hk => ⟨hk.2, hk.1⟩)) hg hat)
                                  have n2_ := Aside0.mk (Kd.R_over' (by (with_reducible repeat (first | apply Kd.R_alloc | apply Kd.R_drewN | apply Kd.R_drew)); exact HO_11.out) (Kd.S_typed (by (with_reducible repeat (first | apply Kd.S_alloc | apply Kd.S_drewN | apply Kd.S_drew)); exact HO_15.out)) (by decide) hg)
                                  have n3_ := Aside0.mk (blk_grown (g := gb291) (o := .cells #[.string t288, .string t289] 45 (0, 0)) (by (with_reducible repeat (first | refine blk_drewN ?_ _ | refine blk_drew ?_ | refine blk_alloc ?_ _)); exact BK291.out) hg (Kd.S_ne HO_15.out BK291.out (by decide)))
                                  have n4_ := Aside0.mk (Kd.R_after (ok := (fun k_ => some k_ ≠ (.slice (some ad295) x10_3.length co29 : Value).ownBlock ∧ some k_ ≠ (.slice Ao42 t296.length co42 : Value).ownBlock)) (by (with_reducible repeat (first | apply Kd.R_alloc | apply Kd.R_drewN | apply Kd.R_drew)); exact Kd.R_mono HL295_0.out (fun _ hk => ⟨⟨hk.1.2, hk.2⟩, hk.1.1⟩)) hg hat)
                                  have n5_ := Aside0.mk (hb)
                                  have n6_ := Aside0.mk (ho)
                                  clear HO_7
                                  clear HO_10
                                  clear HO_11
                                  clear BK291
                                  clear HL295_0
                                  clear HB
                                  clear HO_15
                                  clear HO298
                                  have HO_7 := n0_
                                  have HO_10 := n1_
                                  have HO_11 := n2_
                                  have BK291 := n3_
                                  have HL295_0 := n4_
                                  have HB := n5_
                                  have HO301 := n6_
                                  clear n0_ n1_ n2_ n3_ n4_ n5_ n6_
                                  clear ho hb hg hat
                                  refine hK.out _ _ ?_
                                  clear hK K
                                  refine norm_ (a' := ?_) ?_ ?_
                                  rotate_left
                                  · show Act.put _ (some 84) _ = _
                                    simp only [Act.put, List.setIfInBounds_toArray, List.set_cons_zero, List.set_cons_succ, i64_w, i32_w]
                                    rfl
                                  refine pure_ (i := 9) (N := some 15) (v := ?_) (a' := ?_) #[true, true, true, true, true, true, true, true, true, true] rfl rfl (any_of HT_.out (by kernel_rfl)) (fun _ _ _ h => h) (Or.inl ⟨by rfl, ?_⟩) ?_ ?_
                                  rotate_left
                                  · intro w'
                                    go_simp
                                    with_reducible rfl
                                  rotate_left
                                  · simp only [Act.put, List.setIfInBounds_toArray, List.set_cons_zero, List.set_cons_succ, i64_w, i32_w]
                                    rfl
                                  refine done_ (done_of HT_.out (by kernel_rfl)) ?_
                                  try go_wp2
                                  go_roundg k4
                                  case measure => have := HJ4.out; have := HK2.out; have := HK3.out; have := HK4.out; omega
                                  case rel => exact ⟨(y299), (wrap64 (x16_4 + 1)), (by first | rfl | (simp; done) | (simp [*]; done)), H', ⟨by have := HJ4.out; have := HK2.out; have := HK3.out; have := HK4.out; omega⟩, ⟨by (with_reducible repeat (first | apply Kd.R_alloc | apply Kd.R_drewN | apply Kd.R_drew)); exact HO_7.out⟩, ⟨by (with_reducible repeat (first | apply Kd.S_alloc | apply Kd.S_drewN | apply Kd.S_drew)); exact Kd.S_mono HO_10.out (fun _ hk => hk.2)⟩, ⟨by (with_reducible repeat (first | apply Kd.R_alloc | apply Kd.R_drewN | apply Kd.R_drew)); exact HO_11.out⟩, ⟨by (with_reducible repeat (first | apply Kd.S_alloc | apply Kd.S_drewN | apply Kd.S_drew)); exact HO301.out⟩, ⟨by (with_reducible repeat (first | refine blk_drewN ?_ _ | refine blk_drew ?_ | refine blk_alloc ?_ _)); exact BK291.out⟩, ⟨by repeat (first | (with_reducible first | exact HB.out | apply below_alloc | apply pw_below_drewN | apply below_drew1 | refine below_set ?_ GE291.out) | exact HB.out)⟩⟩
                                · rw [if_neg c38] at H
                                  exact absurd H (by simp)
                              · rw [if_neg c36] at H
                                exact absurd H (by simp)
                            · rw [if_neg c35] at H
                              have c35b0 : decide (x16_4 < (x10_3.length : Int)) = false := decide_eq_false c35
                              clear c35
                              have H' := Aside0.mk H
                              clear H
                              go_wp2
                              go_roundg k4
                              case measure => have := HJ4.out; have := HK2.out; have := HK3.out; have := HK4.out; omega
                              case rel => exact ⟨(y292), (x15_4), H', ⟨by have := HJ4.out; have := HK2.out; have := HK3.out; have := HK4.out; omega⟩, ⟨by (with_reducible repeat (first | apply Kd.R_alloc | apply Kd.R_drewN | apply Kd.R_drew)); exact Kd.R_mono HO_7.out (fun _ hk => trivial)⟩, ⟨by (with_reducible repeat (first | apply Kd.S_alloc | apply Kd.S_drewN | apply Kd.S_drew)); exact Kd.S_mono HO_15.out (fun _ hk => trivial)⟩, ⟨by (with_reducible repeat (first | apply Kd.R_alloc | apply Kd.R_drewN | apply Kd.R_drew)); exact HO_11.out⟩, ⟨by repeat (first | (with_reducible first | exact HB.out | apply below_alloc | apply pw_below_drewN | apply below_drew1 | refine below_set ?_ GE291.out) | exact HB.out)⟩⟩
                      · rw [if_neg c27] at H
                        exact absurd H (by simp)
                  · rw [if_neg c18] at H
                    have c18b0 : decide ((x7_3.length : Int) < a1) = false := decide_eq_false c18
                    clear c18
                    obtain rfl := Option.some.inj H
                    obtain ⟨Ao43, co43, eo43⟩ := Kd.R_slice HO_7.out
                    subst eo43
                    go_wp2
                    go_ret
                    exact ⟨_, by first | rfl | (simp [errW_none, errW_some] <;> rfl) | (simp [*, errW_none, errW_some] <;> rfl), by (with_reducible repeat (first | apply Kd.R_alloc | apply Kd.R_drewN | apply Kd.R_drew)); exact HO_7.out, by repeat (first | (with_reducible first | exact HB.out | apply below_alloc | apply pw_below_drewN | apply below_drew1) | exact HB.out)⟩

end Go.Proofs.Ytbfjlfbahjmibaa.Pr
