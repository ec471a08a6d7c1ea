-- Written by wip/pr.py (over the print of the kit) out of the translation.
import Derived.Test.YtbfjlfbahjmibaaPr0
import Derived.Test.YtbfjlfbahjmibaaPr19
namespace Go.Proofs.Ytbfjlfbahjmibaa.Pr
open Go.RowKit Go.Proofs.YtbfjlfbahjmibaaW.PrintWords Go.Proofs.YtbfjlfbahjmibaaW.PrintLast Go.Proofs.YtbfjlfbahjmibaaW.PrintMore
attribute [local go_sem] max2_int min2_int max_two min_two max_three min_three max_four min_four   -- for this text's walks alone
set_option linter.unusedVariables false
set_option linter.unusedSimpArgs false

/-! ### gluepotlaw16_great: function 21 -/
def gluepotlaw16_great.f (k : Nat) (l0 : List (S35)) : Option (Bool) := (gluepotref07_Great.f k l0 60).bind fun t370 => (if t370 = true then (some true) else ((gluepotref08_Positions.f k l0).bind fun t371 => (some (decide (t371 > 300)))))
theorem gluepotlaw16_great.mono : ∀ a0 k, LeO (gluepotlaw16_great.f k a0) (gluepotlaw16_great.f (k + 1) a0) := by
  intro a0 k
  unfold gluepotlaw16_great.f
  repeat' first
      | (with_reducible exact gluepotref07_Great.mono _ _ _)
      | (with_reducible exact gluepotref08_Positions.mono _ _)
      | (with_reducible exact LeO.refl _)
      | (with_reducible exact LeO.none _)
      | (with_reducible refine LeO.ite ?_ ?_)
      | (with_reducible refine LeO.bind ?_ (fun _ => ?_))
      | exact gluepotref07_Great.mono _ _ _
      | exact gluepotref08_Positions.mono _ _
      | exact LeO.none _
      | refine LeO.ite ?_ ?_
      | refine LeO.bind ?_ (fun _ => ?_)
set_option maxHeartbeats 8000000 in
set_option maxRecDepth 100000 in
theorem gluepotlaw16_great.calls (k : Nat) (A0 : Option Addr) (c0 : Nat) (l0 : List (S35)) (r : Bool) (w : World) (hr0 : Kd.C k35 w A0 l0.length l0) (hc0 : l0.length ≤ c0) (h : gluepotlaw16_great.f k l0 = some r) :
    Calls Try.prog 21 #[.slice A0 l0.length c0] w fun e w' => e = .returned (.bool r) ∧ Drawn0 w w' := by
  have HR0 := Aside0.mk hr0
  have HC0 := Aside0.mk hc0
  clear hr0 hc0
  have H : ((gluepotref07_Great.f k l0 60).bind fun t370 => (if t370 = true then (some true) else ((gluepotref08_Positions.f k l0).bind fun t371 => (some (decide (t371 > 300)))))) = some r := h
  clear h
  replace H := Option.bind_eq_some_iff.mp H
  obtain ⟨t370, A20, H⟩ := H
  replace H : (if t370 = true then (some true) else ((gluepotref08_Positions.f k l0).bind fun t371 => (some (decide (t371 > 300))))) = some r := H
  have A2 := Aside0.mk A20
  clear A20
  by_cases c3 : t370 = true
  · subst c3
    have H1 : (some true) = some r := by rw [if_pos rfl] at H; exact H
    clear H
    have H := H1
    clear H1
    obtain rfl := Option.some.inj H
    go_enter Try.func21, Try.ntmps21
    go_wp2_with (first | ((with_reducible refine gate_callee (f := 10) rfl ?_); refine goesL_ (some 4) rfl rfl Try.func10 (by kernel_rfl) rfl #[.slice A0 l0.length c0, .int .i64 60] rfl (by (try simp only [List.map_toArray, List.map_cons, List.map_nil]); first | done | rfl | (simp only [List.length_drop, List.length_take]; rfl)) ?_; (with_reducible refine (gluepotref07_Great.calls k _ _ l0 60 true _ ?side1 ?side2 A2.out).mono ?_); (case side1 => repeat (first | exact HR0.out | (with_reducible refine Kd.C_alloc ?_ _) | (with_reducible refine Kd.C_drewN ?_ _) | (with_reducible refine Kd.C_drew ?_))); (case side2 => exact HC0.out); rintro e w' ⟨rfl, ⟨nd, rfl⟩⟩; refine ⟨_, rfl, ?_⟩))
    go_ret
    exact ⟨by first | rfl | (simp; done) | (simp [*]; done), by repeat (first | exact Drawn0.refl _ | apply Drawn0.step)⟩
  · replace c3 := Bool.eq_false_iff.mpr c3
    subst c3
    have H1 : ((gluepotref08_Positions.f k l0).bind fun t371 => (some (decide (t371 > 300)))) = some r := by rw [if_neg (show ¬ (false = true) by decide)] at H; exact H
    clear H
    have H := H1
    clear H1
    replace H := Option.bind_eq_some_iff.mp H
    obtain ⟨t371, A40, H⟩ := H
    replace H : (some (decide (t371 > 300))) = some r := H
    have A4 := Aside0.mk A40
    clear A40
    obtain rfl := Option.some.inj H
    go_enter Try.func21, Try.ntmps21
    go_wp2_with (first | ((with_reducible refine gate_callee (f := 10) rfl ?_); refine goesL_ (some 4) rfl rfl Try.func10 (by kernel_rfl) rfl #[.slice A0 l0.length c0, .int .i64 60] rfl (by (try simp only [List.map_toArray, List.map_cons, List.map_nil]); first | done | rfl | (simp only [List.length_drop, List.length_take]; rfl)) ?_; (with_reducible refine (gluepotref07_Great.calls k _ _ l0 60 false _ ?side1 ?side2 A2.out).mono ?_); (case side1 => repeat (first | exact HR0.out | (with_reducible refine Kd.C_alloc ?_ _) | (with_reducible refine Kd.C_drewN ?_ _) | (with_reducible refine Kd.C_drew ?_))); (case side2 => exact HC0.out); rintro e w' ⟨rfl, ⟨nd, rfl⟩⟩; refine ⟨_, rfl, ?_⟩) | (go_at_call 11; (with_reducible refine (gluepotref08_Positions.calls k _ _ l0 t371 _ ?side1 ?side2 A4.out).mono ?_); (case side1 => repeat (first | exact HR0.out | (with_reducible refine Kd.C_alloc ?_ _) | (with_reducible refine Kd.C_drewN ?_ _) | (with_reducible refine Kd.C_drew ?_))); (case side2 => exact HC0.out); rintro e w' ⟨rfl, ⟨nd, rfl⟩⟩))
    go_ret
    exact ⟨by first | rfl | (simp; done) | (simp [*]; done), by repeat (first | exact Drawn0.refl _ | apply Drawn0.step)⟩

end Go.Proofs.Ytbfjlfbahjmibaa.Pr
