/- The law CheckedOrder, walked: the call answers what the function CheckedOrder.f tells. (The text of wip/pr.py; the exchange of two elements by hand.) -/
import Derived.Test.YtpnbelgbcmkdnaaPr0
import Derived.Test.YtpnbelgbcmkdnaaPr2
import Derived.Test.YtpnbelgbcmkdnaaPr3
import Derived.Test.YtpnbelgbcmkdnaaPr6
import Derived.Test.YtpnbelgbcmkdnaaPr18
namespace Go.Proofs.Ytpnbelgbcmkdnaa.Pr
open Go.RowKit Go.Proofs.YtpnbelgbcmkdnaaW.PrintWords Go.Proofs.YtpnbelgbcmkdnaaW.PrintLast Go.Proofs.YtpnbelgbcmkdnaaW.PrintMore
attribute [local go_sem] max2_int min2_int max_two min_two max_three min_three max_four min_four   -- for this text's walks alone
set_option linter.unusedVariables false
set_option linter.unusedSimpArgs false

/-! ### gluepotlaw06_CheckedOrder: function 5 -/
mutual
def gluepotlaw06_CheckedOrder.j0 : Nat → List Int → List Int → Bool → Option (Bool)
  | 0, _, _, _ => none
  | k + 1, x0, x1, x35 => if x35 = true then (some true) else ((some (([] : List Int) : List Int)).bind fun y125 => (if y125.length + x0.length < 17592186044416 then (gluepotlaw06_CheckedOrder.l0 k x0 x1 (y125 ++ x0) 0) else (none)))
def gluepotlaw06_CheckedOrder.j2 : Nat → List Int → List Int → Option (Bool)
  | 0, _, _ => none
  | k + 1, x0, x5 => (checked_Sum.f k x0).bind fun bt136 => ((checked_Sum.f k x5).bind fun bt138 => (if bt136.1 = bt138.1 then (gluepotlaw06_CheckedOrder.j3 k x0 (bt136.2 != bt138.2)) else (gluepotlaw06_CheckedOrder.j3 k x0 true)))
def gluepotlaw06_CheckedOrder.j3 : Nat → List Int → Bool → Option (Bool)
  | 0, _, _ => none
  | k + 1, x0, x95 => if x95 = true then (some false) else (gluepotlaw06_CheckedOrder.l1 k x0 1)
def gluepotlaw06_CheckedOrder.l1 : Nat → List Int → Int → Option (Bool)
  | 0, _, _ => none
  | k + 1, x0, x15 => if x15 < (x0.length : Int) then (if 0 ≤ (wrap64 (x15 - 1)) then (if (wrap64 (x15 - 1)) < (x0.length : Int) then (if 0 ≤ x15 then ((checked_Add.f (rd x0 (wrap64 (x15 - 1))) (rd x0 x15)).bind fun bt142 => ((checked_Add.f (rd x0 x15) (rd x0 (wrap64 (x15 - 1)))).bind fun bt144 => ((checked_Mul.f k (rd x0 (wrap64 (x15 - 1))) (rd x0 x15)).bind fun bt146 => ((checked_Mul.f k (rd x0 x15) (rd x0 (wrap64 (x15 - 1)))).bind fun bt148 => (if bt142.1 = bt144.1 then (if (bt142.2 != bt144.2) = true then (some false) else (if bt146.1 = bt148.1 then (if (bt146.2 != bt148.2) = true then (some false) else (if bt142.2 = true then (if (wrap64 (bt142.1 - (rd x0 (wrap64 (x15 - 1))))) = (rd x0 x15) then (if bt146.2 = true then (if (rd x0 (wrap64 (x15 - 1))) = 0 then (gluepotlaw06_CheckedOrder.l1 k x0 (wrap64 (x15 + 1))) else (if (wrap64 (Int.tdiv bt146.1 (rd x0 (wrap64 (x15 - 1))))) = (rd x0 x15) then (gluepotlaw06_CheckedOrder.l1 k x0 (wrap64 (x15 + 1))) else (some false))) else (gluepotlaw06_CheckedOrder.l1 k x0 (wrap64 (x15 + 1)))) else (some false)) else (if bt146.2 = true then (if (rd x0 (wrap64 (x15 - 1))) = 0 then (gluepotlaw06_CheckedOrder.l1 k x0 (wrap64 (x15 + 1))) else (if (wrap64 (Int.tdiv bt146.1 (rd x0 (wrap64 (x15 - 1))))) = (rd x0 x15) then (gluepotlaw06_CheckedOrder.l1 k x0 (wrap64 (x15 + 1))) else (some false))) else (gluepotlaw06_CheckedOrder.l1 k x0 (wrap64 (x15 + 1)))))) else (some false))) else (some false)))))) else (none)) else (none)) else (none)) else (some true)
def gluepotlaw06_CheckedOrder.l0 : Nat → List Int → List Int → List Int → Int → Option (Bool)
  | 0, _, _, _, _ => none
  | k + 1, x0, x1, x5, x6 => if x6 < (x1.length : Int) then (if (x5.length : Int) > 0 then (if (x5.length : Int) = 0 then (none) else (if 0 ≤ x6 then (if 0 ≤ (Int.tmod x6 (x5.length : Int)) then (if (Int.tmod x6 (x5.length : Int)) < (x5.length : Int) then (if 0 ≤ (Int.tmod (wrap64 (rd x1 x6)) (x5.length : Int)) then (if (Int.tmod (wrap64 (rd x1 x6)) (x5.length : Int)) < (x5.length : Int) then (gluepotlaw06_CheckedOrder.l0 k x0 x1 ((x5.set ((Int.tmod x6 (x5.length : Int)) : Int).toNat (rd x5 (Int.tmod (wrap64 (rd x1 x6)) (x5.length : Int)))).set ((Int.tmod (wrap64 (rd x1 x6)) (x5.length : Int)) : Int).toNat (rd x5 (Int.tmod x6 (x5.length : Int)))) (wrap64 (x6 + 1))) else (none)) else (none)) else (none)) else (none)) else (none))) else (gluepotlaw06_CheckedOrder.j2 k x0 x5)) else (gluepotlaw06_CheckedOrder.j2 k x0 x5)
end
def gluepotlaw06_CheckedOrder.f (k : Nat) (l0 : List Int) (l1 : List Int) : Option (Bool) := (gluepotlaw06_awake.f).bind fun t124 => (if t124 = true then (if (l0.length : Int) > 100 then (gluepotlaw06_CheckedOrder.j0 k l0 l1 true) else (gluepotlaw06_CheckedOrder.j0 k l0 l1 (decide ((l1.length : Int) > 100)))) else (some false))
theorem gluepotlaw06_CheckedOrder.mono_l : ∀ k, (∀ y0 y1 y2, LeO (gluepotlaw06_CheckedOrder.j0 k y0 y1 y2) (gluepotlaw06_CheckedOrder.j0 (k + 1) y0 y1 y2)) ∧ (∀ y0 y1, LeO (gluepotlaw06_CheckedOrder.j2 k y0 y1) (gluepotlaw06_CheckedOrder.j2 (k + 1) y0 y1)) ∧ (∀ y0 y1, LeO (gluepotlaw06_CheckedOrder.j3 k y0 y1) (gluepotlaw06_CheckedOrder.j3 (k + 1) y0 y1)) ∧ (∀ y0 y1, LeO (gluepotlaw06_CheckedOrder.l1 k y0 y1) (gluepotlaw06_CheckedOrder.l1 (k + 1) y0 y1)) ∧ (∀ y0 y1 y2 y3, LeO (gluepotlaw06_CheckedOrder.l0 k y0 y1 y2 y3) (gluepotlaw06_CheckedOrder.l0 (k + 1) y0 y1 y2 y3))
  | 0 => ⟨fun _ _ _ r h => by simp [gluepotlaw06_CheckedOrder.j0] at h, fun _ _ r h => by simp [gluepotlaw06_CheckedOrder.j2] at h, fun _ _ r h => by simp [gluepotlaw06_CheckedOrder.j3] at h, fun _ _ r h => by simp [gluepotlaw06_CheckedOrder.l1] at h, fun _ _ _ _ r h => by simp [gluepotlaw06_CheckedOrder.l0] at h⟩
  | k + 1 => by
    obtain ⟨ih0, ih1, ih2, ih3, ih4⟩ := gluepotlaw06_CheckedOrder.mono_l k
    refine ⟨?_, ?_, ?_, ?_, ?_⟩
    · intro y0 y1 y2
      unfold gluepotlaw06_CheckedOrder.j0
      repeat' first
      | (with_reducible exact ih0 _ _ _)
      | (with_reducible exact ih1 _ _)
      | (with_reducible exact ih2 _ _)
      | (with_reducible exact ih3 _ _)
      | (with_reducible exact ih4 _ _ _ _)
      | (with_reducible exact checked_Mul.mono _ _ _)
      | (with_reducible exact checked_Sum.mono _ _)
      | (with_reducible exact LeO.refl _)
      | (with_reducible exact LeO.none _)
      | (with_reducible refine LeO.ite ?_ ?_)
      | (with_reducible refine LeO.bind ?_ (fun _ => ?_))
      | exact ih0 _ _ _
      | exact ih1 _ _
      | exact ih2 _ _
      | exact ih3 _ _
      | exact ih4 _ _ _ _
      | exact checked_Mul.mono _ _ _
      | exact checked_Sum.mono _ _
      | exact LeO.none _
      | refine LeO.ite ?_ ?_
      | refine LeO.bind ?_ (fun _ => ?_)
    · intro y0 y1
      unfold gluepotlaw06_CheckedOrder.j2
      repeat' first
      | (with_reducible exact ih0 _ _ _)
      | (with_reducible exact ih1 _ _)
      | (with_reducible exact ih2 _ _)
      | (with_reducible exact ih3 _ _)
      | (with_reducible exact ih4 _ _ _ _)
      | (with_reducible exact checked_Mul.mono _ _ _)
      | (with_reducible exact checked_Sum.mono _ _)
      | (with_reducible exact LeO.refl _)
      | (with_reducible exact LeO.none _)
      | (with_reducible refine LeO.ite ?_ ?_)
      | (with_reducible refine LeO.bind ?_ (fun _ => ?_))
      | exact ih0 _ _ _
      | exact ih1 _ _
      | exact ih2 _ _
      | exact ih3 _ _
      | exact ih4 _ _ _ _
      | exact checked_Mul.mono _ _ _
      | exact checked_Sum.mono _ _
      | exact LeO.none _
      | refine LeO.ite ?_ ?_
      | refine LeO.bind ?_ (fun _ => ?_)
    · intro y0 y1
      unfold gluepotlaw06_CheckedOrder.j3
      repeat' first
      | (with_reducible exact ih0 _ _ _)
      | (with_reducible exact ih1 _ _)
      | (with_reducible exact ih2 _ _)
      | (with_reducible exact ih3 _ _)
      | (with_reducible exact ih4 _ _ _ _)
      | (with_reducible exact checked_Mul.mono _ _ _)
      | (with_reducible exact checked_Sum.mono _ _)
      | (with_reducible exact LeO.refl _)
      | (with_reducible exact LeO.none _)
      | (with_reducible refine LeO.ite ?_ ?_)
      | (with_reducible refine LeO.bind ?_ (fun _ => ?_))
      | exact ih0 _ _ _
      | exact ih1 _ _
      | exact ih2 _ _
      | exact ih3 _ _
      | exact ih4 _ _ _ _
      | exact checked_Mul.mono _ _ _
      | exact checked_Sum.mono _ _
      | exact LeO.none _
      | refine LeO.ite ?_ ?_
      | refine LeO.bind ?_ (fun _ => ?_)
    · intro y0 y1
      unfold gluepotlaw06_CheckedOrder.l1
      repeat' first
      | (with_reducible exact ih0 _ _ _)
      | (with_reducible exact ih1 _ _)
      | (with_reducible exact ih2 _ _)
      | (with_reducible exact ih3 _ _)
      | (with_reducible exact ih4 _ _ _ _)
      | (with_reducible exact checked_Mul.mono _ _ _)
      | (with_reducible exact checked_Sum.mono _ _)
      | (with_reducible exact LeO.refl _)
      | (with_reducible exact LeO.none _)
      | (with_reducible refine LeO.ite ?_ ?_)
      | (with_reducible refine LeO.bind ?_ (fun _ => ?_))
      | exact ih0 _ _ _
      | exact ih1 _ _
      | exact ih2 _ _
      | exact ih3 _ _
      | exact ih4 _ _ _ _
      | exact checked_Mul.mono _ _ _
      | exact checked_Sum.mono _ _
      | exact LeO.none _
      | refine LeO.ite ?_ ?_
      | refine LeO.bind ?_ (fun _ => ?_)
    · intro y0 y1 y2 y3
      unfold gluepotlaw06_CheckedOrder.l0
      repeat' first
      | (with_reducible exact ih0 _ _ _)
      | (with_reducible exact ih1 _ _)
      | (with_reducible exact ih2 _ _)
      | (with_reducible exact ih3 _ _)
      | (with_reducible exact ih4 _ _ _ _)
      | (with_reducible exact checked_Mul.mono _ _ _)
      | (with_reducible exact checked_Sum.mono _ _)
      | (with_reducible exact LeO.refl _)
      | (with_reducible exact LeO.none _)
      | (with_reducible refine LeO.ite ?_ ?_)
      | (with_reducible refine LeO.bind ?_ (fun _ => ?_))
      | exact ih0 _ _ _
      | exact ih1 _ _
      | exact ih2 _ _
      | exact ih3 _ _
      | exact ih4 _ _ _ _
      | exact checked_Mul.mono _ _ _
      | exact checked_Sum.mono _ _
      | exact LeO.none _
      | refine LeO.ite ?_ ?_
      | refine LeO.bind ?_ (fun _ => ?_)
theorem gluepotlaw06_CheckedOrder.mono : ∀ a0 a1 k, LeO (gluepotlaw06_CheckedOrder.f k a0 a1) (gluepotlaw06_CheckedOrder.f (k + 1) a0 a1) := by
  intro a0 a1 k
  obtain ⟨ih0, ih1, ih2, ih3, ih4⟩ := gluepotlaw06_CheckedOrder.mono_l k
  unfold gluepotlaw06_CheckedOrder.f
  repeat' first
      | (with_reducible exact ih0 _ _ _)
      | (with_reducible exact ih1 _ _)
      | (with_reducible exact ih2 _ _)
      | (with_reducible exact ih3 _ _)
      | (with_reducible exact ih4 _ _ _ _)
      | (with_reducible exact checked_Mul.mono _ _ _)
      | (with_reducible exact checked_Sum.mono _ _)
      | (with_reducible exact LeO.refl _)
      | (with_reducible exact LeO.none _)
      | (with_reducible refine LeO.ite ?_ ?_)
      | (with_reducible refine LeO.bind ?_ (fun _ => ?_))
      | exact ih0 _ _ _
      | exact ih1 _ _
      | exact ih2 _ _
      | exact ih3 _ _
      | exact ih4 _ _ _ _
      | exact checked_Mul.mono _ _ _
      | exact checked_Sum.mono _ _
      | exact LeO.none _
      | refine LeO.ite ?_ ?_
      | refine LeO.bind ?_ (fun _ => ?_)
set_option maxHeartbeats 8000000 in
set_option maxRecDepth 100000 in
theorem gluepotlaw06_CheckedOrder.calls (k : Nat) (A0 : Option Addr) (c0 : Nat) (l0 : List Int) (A1 : Option Addr) (c1 : Nat) (l1 : List Int) (r : Bool) (w : World) (hr0 : Kd.C (Kd.int .i64) w A0 l0.length l0) (hc0 : l0.length ≤ c0) (hr1 : Kd.C (Kd.int .u16) w A1 l1.length l1) (hc1 : l1.length ≤ c1) (h : gluepotlaw06_CheckedOrder.f k l0 l1 = some r) :
    Calls Try.prog 5 #[.slice A0 l0.length c0, .slice A1 l1.length c1] w fun e w' => e = .returned (.bool r) ∧ Below w.heap.size w w' := by
  have HR0 := Aside0.mk hr0
  have HC0 := Aside0.mk hc0
  clear hr0 hc0
  have HR1 := Aside0.mk hr1
  have HC1 := Aside0.mk hc1
  clear hr1 hc1
  have HB := Aside0.mk (Below.refl w.heap.size w)
  have H : ((gluepotlaw06_awake.f).bind fun t124 => (if t124 = true then (if (l0.length : Int) > 100 then (gluepotlaw06_CheckedOrder.j0 k l0 l1 true) else (gluepotlaw06_CheckedOrder.j0 k l0 l1 (decide ((l1.length : Int) > 100)))) else (some false))) = some r := h
  clear h
  replace H := Option.bind_eq_some_iff.mp H
  obtain ⟨t124, A30, H⟩ := H
  replace H : (if t124 = true then (if (l0.length : Int) > 100 then (gluepotlaw06_CheckedOrder.j0 k l0 l1 true) else (gluepotlaw06_CheckedOrder.j0 k l0 l1 (decide ((l1.length : Int) > 100)))) else (some false)) = some r := H
  have A3 := Aside0.mk A30
  clear A30
  by_cases c4 : t124 = true
  · subst c4
    have H1 : (if (l0.length : Int) > 100 then (gluepotlaw06_CheckedOrder.j0 k l0 l1 true) else (gluepotlaw06_CheckedOrder.j0 k l0 l1 (decide ((l1.length : Int) > 100)))) = some r := by rw [if_pos rfl] at H; exact H
    clear H
    have H := H1
    clear H1
    have HC5 := Aside0.mk H
    clear H
    go_enter Try.func5, Try.ntmps5
    go_upto_region 3 with (first | (go_at_call 9; (with_reducible refine (gluepotlaw06_awake.calls  true _ A3.out).mono ?_); rintro e w' ⟨rfl, ⟨nd, rfl⟩⟩; (try first | exact ⟨rfl, _, World.drewN_drewN _ _ _⟩ | exact ⟨rfl, _, Eq.trans (World.drewN_drewN _ _ _) (congrArg (World.drewN _) (Nat.add_assoc _ _ _))⟩)))
    repeat (go_quiet (first | (go_at_call 9; (with_reducible refine (gluepotlaw06_awake.calls  true _ A3.out).mono ?_); rintro e w' ⟨rfl, ⟨nd, rfl⟩⟩; (try first | exact ⟨rfl, _, World.drewN_drewN _ _ _⟩ | exact ⟨rfl, _, Eq.trans (World.drewN_drewN _ _ _) (congrArg (World.drewN _) (Nat.add_assoc _ _ _))⟩))); go_upto_region 3 with (first | (go_at_call 9; (with_reducible refine (gluepotlaw06_awake.calls  true _ A3.out).mono ?_); rintro e w' ⟨rfl, ⟨nd, rfl⟩⟩; (try first | exact ⟨rfl, _, World.drewN_drewN _ _ _⟩ | exact ⟨rfl, _, Eq.trans (World.drewN_drewN _ _ _) (congrArg (World.drewN _) (Nat.add_assoc _ _ _))⟩))))
    (try simp only [Act.put, List.setIfInBounds_toArray, List.set_cons_zero, List.set_cons_succ])
    go_cut [35] (fun v35 wc => ∃ (kq : Nat) (x35_4 : Bool), v35 = .bool x35_4 ∧ Aside0 (gluepotlaw06_CheckedOrder.j0 kq l0 l1 x35_4 = some r) ∧ Aside0 (kq ≤ k) ∧ Aside0 (Below w.heap.size w wc))
    case first =>
      have H := HC5.out
      clear HC5
      by_cases c6 : (l0.length : Int) > 100
      · rw [if_pos c6] at H
        have c6b0 : decide (100 < (l0.length : Int)) = true := decide_eq_true c6
        have c6b1 : decide (100 < l0.length) = true := decide_eq_true (by omega)
        clear c6
        (first | rw [c6b0] | (simp only [i64_w, i32_w]; rw [c6b0]) | skip)
        have H' := Aside0.mk H
        clear H
        go_wp2
        repeat (go_quiet (fail); try go_wp2)
        go_meet
        case rel => exact ⟨_, (true), (by first | rfl | (simp; done) | (simp [*]; done)), H', ⟨by first | omega | exact Nat.le_refl _⟩, ⟨by repeat (first | (with_reducible first | exact HB.out | apply below_alloc | apply pw_below_drewN | apply below_drew1) | exact HB.out)⟩⟩
      · rw [if_neg c6] at H
        have c6b0 : decide (100 < (l0.length : Int)) = false := decide_eq_false c6
        have c6b1 : decide (100 < l0.length) = false := decide_eq_false (by omega)
        clear c6
        (first | rw [c6b0] | (simp only [i64_w, i32_w]; rw [c6b0]) | skip)
        have H' := Aside0.mk H
        clear H
        go_wp2
        repeat (go_quiet (fail); try go_wp2)
        go_meet
        case rel => exact ⟨_, (decide ((l1.length : Int) > 100)), (by first | rfl | (simp; done) | (simp [*]; done)), H', ⟨by first | omega | exact Nat.le_refl _⟩, ⟨by repeat (first | (with_reducible first | exact HB.out | apply below_alloc | apply pw_below_drewN | apply below_drew1) | exact HB.out)⟩⟩
    case rest =>
      clear HC5
      try clear c1
      try clear p2
      try clear c4
      try clear c5
      try clear c6
      try clear c6b0
      try clear c6b1
      obtain ⟨kq, x35_4, rfl, HA, HJ4, HB⟩ := hcut
      cases kq with
      | zero => exact absurd HA.out (by simp [gluepotlaw06_CheckedOrder.j0])
      | succ kj4 =>
        have H := HA.out
        clear HA
        simp only [gluepotlaw06_CheckedOrder.j0] at H
        by_cases c7 : x35_4 = true
        · subst c7
          have H1 : (some true) = some r := by rw [if_pos rfl] at H; exact H
          clear H
          have H := H1
          clear H1
          obtain rfl := Option.some.inj H
          go_wp2
          repeat (go_quiet (fail); try go_wp2)
          go_ret
          exact ⟨by first | rfl | (simp [errW_none, errW_some] <;> rfl) | (simp [*, errW_none, errW_some] <;> rfl), by repeat (first | (with_reducible first | exact HB.out | apply below_alloc | apply pw_below_drewN | apply below_drew1) | exact HB.out)⟩
        · replace c7 := Bool.eq_false_iff.mpr c7
          subst c7
          have H1 : ((some (([] : List Int) : List Int)).bind fun y125 => (if y125.length + l0.length < 17592186044416 then (gluepotlaw06_CheckedOrder.l0 kj4 l0 l1 (y125 ++ l0) 0) else (none))) = some r := by rw [if_neg (show ¬ (false = true) by decide)] at H; exact H
          clear H
          have H := H1
          clear H1
          obtain ⟨y125, hy125⟩ : ∃ y_ : List Int, y_ = (([] : List Int)) := ⟨_, rfl⟩
          replace H : (if y125.length + l0.length < 17592186044416 then (gluepotlaw06_CheckedOrder.l0 kj4 l0 l1 (y125 ++ l0) 0) else (none)) = some r := by first | (rw [hy125]; with_reducible exact H) | (have H2_ := (Option.bind_some _ _).symm.trans H; rw [hy125]; with_reducible exact H2_) | (have H2_ := (Option.bind_some _ _).symm.trans H; with_reducible exact H2_) | with_reducible exact H | (rw [hy125]; exact H) | exact H
          have Ny125 := Aside0.mk hy125
          clear hy125
          by_cases c8 : y125.length + l0.length < 17592186044416
          · rw [if_pos c8] at H
            have LMc8 := Aside0.mk c8
            clear c8
            obtain ⟨y128, hy128⟩ : ∃ y_ : List Int, y_ = (y125 ++ l0) := ⟨_, rfl⟩
            replace H : (gluepotlaw06_CheckedOrder.l0 kj4 l0 l1 y128 0) = some r := by first | (rw [hy128]; with_reducible exact H) | (have H2_ := (Option.bind_some _ _).symm.trans H; rw [hy128]; with_reducible exact H2_) | (have H2_ := (Option.bind_some _ _).symm.trans H; with_reducible exact H2_) | with_reducible exact H | (rw [hy128]; exact H) | exact H
            have Ny128 := Aside0.mk hy128
            clear hy128
            have HC9 := Aside0.mk H
            clear H
            go_upto_block 0 with (first | ((with_reducible refine gate_dst (N := 36) rfl ?_); (try (refine gate_guard (by rfl) ?_; dsimp only)); refine Kd.R_lit (Kd.int .i64) _ 3 ?hg (N := 36) ?hd (xs := ([] : List Int)) (inner := []) (ok := fun _ => True) (okp := fun _ => True) ?hr ?hp (fun _ hk => hk) trivial (Below.refl _ _) (Nat.le_refl _) (by simp) ?_; (case hd => rfl); (case hg => rfl); (case hr => first | (go_simp; done) | (go_simp; rfl)); (case hp => exact (Reps.none _ _)); intro v126 w10 ho11 hb hg_ hnew_; clear hg_ hnew_; (first | rw [← Ny125.out] at ho11 | (simp only [Int.reduceToNat] at ho11; rw [← Ny125.out] at ho11)); have n0_ := Aside0.mk (Kd.R_lower ho11 (below_size (by repeat (first | (with_reducible first | exact HB.out | apply below_alloc | apply pw_below_drewN | apply below_drew1) | exact HB.out)))); have n1_ := Aside0.mk (below_step (by repeat (first | (with_reducible first | exact HB.out | apply below_alloc | apply pw_below_drewN | apply below_drew1) | exact HB.out)) hb); clear HB; have HO127 := n0_; have HB := n1_; clear n0_ n1_; clear hb ho11) | ((with_reducible refine gate_builtin (b := .append) (xs := #[.tmp 36, .tmp 37]) rfl ?_); (try (refine gate_guard (by rfl) ?_; dsimp only)); at_builtin; refine Kd.R_append_rows (Kd.int .i64) (w0 := w) w.heap.size rfl (.tmp 36) (.tmp 37) 29 3 (.int .i64 0) 8 rfl Try.underlying29 info3 rfl (by decide) (by omega) v126 y125 l0 _ _ _ (fun _ => True) (fun _ => False) rfl rfl ?aO ?aR (fun _ _ h => h) (fun _ h => h.elim) ?aF ?aB ?aS ?aL ?_; (case aR => repeat (first | exact (Kd.C_below HR0.out HB.out) | (with_reducible refine Kd.C_alloc ?_ _) | (with_reducible refine Kd.C_drewN ?_ _) | (with_reducible refine Kd.C_drew ?_))); (case aB => exact (by repeat (first | (with_reducible first | exact HB.out | apply below_alloc | apply pw_below_drewN | apply below_drew1) | exact HB.out))); (case aF => exact (fun _ _ => trivial)); (case aO => exact (by (with_reducible repeat (first | apply Kd.R_alloc | apply Kd.R_drewN | apply Kd.R_drew)); exact HO127.out)); (case aS => exact (below_size (by repeat (first | (with_reducible first | exact HB.out | apply below_alloc | apply pw_below_drewN | apply below_drew1) | exact HB.out)))); (case aL => have := LMc8.out; omega); intro v129 w12 ho hb hg hat; rw [← Ny128.out] at ho; have n0_ := Aside0.mk (hb); have n1_ := Aside0.mk (ho); clear HB; clear HO127; have HB := n0_; have HO130 := n1_; clear n0_ n1_; clear ho hb hg hat))
            repeat (go_quiet (first | ((with_reducible refine gate_dst (N := 36) rfl ?_); (try (refine gate_guard (by rfl) ?_; dsimp only)); refine Kd.R_lit (Kd.int .i64) _ 3 ?hg (N := 36) ?hd (xs := ([] : List Int)) (inner := []) (ok := fun _ => True) (okp := fun _ => True) ?hr ?hp (fun _ hk => hk) trivial (Below.refl _ _) (Nat.le_refl _) (by simp) ?_; (case hd => rfl); (case hg => rfl); (case hr => first | (go_simp; done) | (go_simp; rfl)); (case hp => exact (Reps.none _ _)); intro v126 w10 ho11 hb hg_ hnew_; clear hg_ hnew_; (first | rw [← Ny125.out] at ho11 | (simp only [Int.reduceToNat] at ho11; rw [← Ny125.out] at ho11)); have n0_ := Aside0.mk (Kd.R_lower ho11 (below_size (by repeat (first | (with_reducible first | exact HB.out | apply below_alloc | apply pw_below_drewN | apply below_drew1) | exact HB.out)))); have n1_ := Aside0.mk (below_step (by repeat (first | (with_reducible first | exact HB.out | apply below_alloc | apply pw_below_drewN | apply below_drew1) | exact HB.out)) hb); clear HB; have HO127 := n0_; have HB := n1_; clear n0_ n1_; clear hb ho11) | ((with_reducible refine gate_builtin (b := .append) (xs := #[.tmp 36, .tmp 37]) rfl ?_); (try (refine gate_guard (by rfl) ?_; dsimp only)); at_builtin; refine Kd.R_append_rows (Kd.int .i64) (w0 := w) w.heap.size rfl (.tmp 36) (.tmp 37) 29 3 (.int .i64 0) 8 rfl Try.underlying29 info3 rfl (by decide) (by omega) v126 y125 l0 _ _ _ (fun _ => True) (fun _ => False) rfl rfl ?aO ?aR (fun _ _ h => h) (fun _ h => h.elim) ?aF ?aB ?aS ?aL ?_; (case aR => repeat (first | exact (Kd.C_below HR0.out HB.out) | (with_reducible refine Kd.C_alloc ?_ _) | (with_reducible refine Kd.C_drewN ?_ _) | (with_reducible refine Kd.C_drew ?_))); (case aB => exact (by repeat (first | (with_reducible first | exact HB.out | apply below_alloc | apply pw_below_drewN | apply below_drew1) | exact HB.out))); (case aF => exact (fun _ _ => trivial)); (case aO => exact (by (with_reducible repeat (first | apply Kd.R_alloc | apply Kd.R_drewN | apply Kd.R_drew)); exact HO127.out)); (case aS => exact (below_size (by repeat (first | (with_reducible first | exact HB.out | apply below_alloc | apply pw_below_drewN | apply below_drew1) | exact HB.out)))); (case aL => have := LMc8.out; omega); intro v129 w12 ho hb hg hat; rw [← Ny128.out] at ho; have n0_ := Aside0.mk (hb); have n1_ := Aside0.mk (ho); clear HB; clear HO127; have HB := n0_; have HO130 := n1_; clear n0_ n1_; clear ho hb hg hat)); go_upto_block 0 with (first | ((with_reducible refine gate_dst (N := 36) rfl ?_); (try (refine gate_guard (by rfl) ?_; dsimp only)); refine Kd.R_lit (Kd.int .i64) _ 3 ?hg (N := 36) ?hd (xs := ([] : List Int)) (inner := []) (ok := fun _ => True) (okp := fun _ => True) ?hr ?hp (fun _ hk => hk) trivial (Below.refl _ _) (Nat.le_refl _) (by simp) ?_; (case hd => rfl); (case hg => rfl); (case hr => first | (go_simp; done) | (go_simp; rfl)); (case hp => exact (Reps.none _ _)); intro v126 w10 ho11 hb hg_ hnew_; clear hg_ hnew_; (first | rw [← Ny125.out] at ho11 | (simp only [Int.reduceToNat] at ho11; rw [← Ny125.out] at ho11)); have n0_ := Aside0.mk (Kd.R_lower ho11 (below_size (by repeat (first | (with_reducible first | exact HB.out | apply below_alloc | apply pw_below_drewN | apply below_drew1) | exact HB.out)))); have n1_ := Aside0.mk (below_step (by repeat (first | (with_reducible first | exact HB.out | apply below_alloc | apply pw_below_drewN | apply below_drew1) | exact HB.out)) hb); clear HB; have HO127 := n0_; have HB := n1_; clear n0_ n1_; clear hb ho11) | ((with_reducible refine gate_builtin (b := .append) (xs := #[.tmp 36, .tmp 37]) rfl ?_); (try (refine gate_guard (by rfl) ?_; dsimp only)); at_builtin; refine Kd.R_append_rows (Kd.int .i64) (w0 := w) w.heap.size rfl (.tmp 36) (.tmp 37) 29 3 (.int .i64 0) 8 rfl Try.underlying29 info3 rfl (by decide) (by omega) v126 y125 l0 _ _ _ (fun _ => True) (fun _ => False) rfl rfl ?aO ?aR (fun _ _ h => h) (fun _ h => h.elim) ?aF ?aB ?aS ?aL ?_; (case aR => repeat (first | exact (Kd.C_below HR0.out HB.out) | (with_reducible refine Kd.C_alloc ?_ _) | (with_reducible refine Kd.C_drewN ?_ _) | (with_reducible refine Kd.C_drew ?_))); (case aB => exact (by repeat (first | (with_reducible first | exact HB.out | apply below_alloc | apply pw_below_drewN | apply below_drew1) | exact HB.out))); (case aF => exact (fun _ _ => trivial)); (case aO => exact (by (with_reducible repeat (first | apply Kd.R_alloc | apply Kd.R_drewN | apply Kd.R_drew)); exact HO127.out)); (case aS => exact (below_size (by repeat (first | (with_reducible first | exact HB.out | apply below_alloc | apply pw_below_drewN | apply below_drew1) | exact HB.out)))); (case aL => have := LMc8.out; omega); intro v129 w12 ho hb hg hat; rw [← Ny128.out] at ho; have n0_ := Aside0.mk (hb); have n1_ := Aside0.mk (ho); clear HB; clear HO127; have HB := n0_; have HO130 := n1_; clear n0_ n1_; clear ho hb hg hat)))
            (try simp only [Act.put, List.setIfInBounds_toArray, List.set_cons_zero, List.set_cons_succ])
            go_cut [] (fun wc => ∃ (kq : Nat) (x5_8 : List Int), Aside0 (gluepotlaw06_CheckedOrder.j2 kq l0 x5_8 = some r) ∧ Aside0 (kq ≤ kj4) ∧ Aside0 (Kd.R (Kd.int .i64) 3 wc w.heap.size (fun _ => True) v129 x5_8) ∧ Aside0 (Below w.heap.size w wc))
            case first =>
              have H := HC9.out
              clear HC9
              have H' := Aside0.mk H
              clear H
              go_wp2
              repeat (go_quiet (fail); try go_wp2)
              go_loopg [6] kj4 (fun kq v6 w' => ∃ (x5_2 : List Int) (x6_2 : Int), v6 = .int .i64 x6_2 ∧ Aside0 (gluepotlaw06_CheckedOrder.l0 kq l0 l1 x5_2 x6_2 = some r) ∧ Aside0 (kq ≤ kj4) ∧ Aside0 (Kd.R (Kd.int .i64) 3 w' w.heap.size (fun _ => True) v129 x5_2) ∧ Aside0 (Below w.heap.size w w'))
              case atStart => exact ⟨(y128), (0), (by first | rfl | (simp; done) | (simp [*]; done)), H', ⟨Nat.le_refl _⟩, ⟨by (with_reducible repeat (first | apply Kd.R_alloc | apply Kd.R_drewN | apply Kd.R_drew)); exact HO130.out⟩, ⟨by repeat (first | (with_reducible first | exact HB.out | apply below_alloc | apply pw_below_drewN | apply below_drew1) | exact HB.out)⟩⟩
              case round =>
                clear H'
                try clear c1
                try clear p2
                try clear c4
                try clear c5
                try clear c6
                try clear c6b0
                try clear c6b1
                try clear c7
                try clear c8
                try clear p2
                obtain ⟨x5_2, x6_2, rfl, HA, HK2, HO_5, HB⟩ := hrel
                cases gk with
                | zero => exact absurd HA.out (by simp [gluepotlaw06_CheckedOrder.l0])
                | succ k2 =>
                  have H := HA.out
                  clear HA
                  simp only [gluepotlaw06_CheckedOrder.l0] at H
                  by_cases c13 : x6_2 < (l1.length : Int)
                  · rw [if_pos c13] at H
                    have c13b0 : decide (x6_2 < (l1.length : Int)) = true := decide_eq_true c13
                    clear c13
                    (first | rw [c13b0] | (simp only [i64_w, i32_w]; rw [c13b0]) | skip)
                    by_cases c14 : (x5_2.length : Int) > 0
                    · rw [if_pos c14] at H
                      have c14b0 : decide (0 < (x5_2.length : Int)) = true := decide_eq_true c14
                      have c14b1 : decide (0 < x5_2.length) = true := decide_eq_true (by omega)
                      clear c14
                      by_cases c15 : (x5_2.length : Int) = 0
                      · rw [if_pos c15] at H
                        exact absurd H (by simp)
                      · rw [if_neg c15] at H
                        have c15b0 : ((x5_2.length : Int) == 0) = false := beq_eq_false_iff_ne.mpr c15
                        have c15b1 : ((x5_2.length : Int) != 0) = true := bne_iff_ne.mpr c15
                        have c15b2 : ¬ (x5_2 = []) := fun h_ => c15 (by rw [h_]; rfl)
                        by_cases c16 : 0 ≤ x6_2
                        · rw [if_pos c16] at H
                          have c16b0 : decide (0 ≤ x6_2) = true := decide_eq_true c16
                          clear c16
                          obtain ⟨ji17, hji17⟩ : ∃ j_ : Int, (Int.tmod x6_2 (x5_2.length : Int)) = j_ := ⟨_, rfl⟩
                          replace H : (if 0 ≤ (ji17) then (if (ji17) < (x5_2.length : Int) then (if 0 ≤ (Int.tmod (wrap64 (rd l1 x6_2)) (x5_2.length : Int)) then (if (Int.tmod (wrap64 (rd l1 x6_2)) (x5_2.length : Int)) < (x5_2.length : Int) then (gluepotlaw06_CheckedOrder.l0 k2 l0 l1 ((x5_2.set ((ji17) : Int).toNat (rd x5_2 (Int.tmod (wrap64 (rd l1 x6_2)) (x5_2.length : Int)))).set ((Int.tmod (wrap64 (rd l1 x6_2)) (x5_2.length : Int)) : Int).toNat (rd x5_2 (ji17))) (wrap64 (x6_2 + 1))) else (none)) else (none)) else (none)) else (none)) = some r := by first | (rw [hji17] at H; exact H) | (simp only [hji17] at H ⊢; exact H)
                          by_cases c18 : 0 ≤ (ji17)
                          · rw [if_pos c18] at H
                            have c18b0 : decide (0 ≤ (ji17)) = true := decide_eq_true c18
                            clear c18
                            by_cases c19 : (ji17) < (x5_2.length : Int)
                            · rw [if_pos c19] at H
                              have c19b0 : decide ((ji17) < (x5_2.length : Int)) = true := decide_eq_true c19
                              clear c19
                              obtain ⟨ji20, hji20⟩ : ∃ j_ : Int, (Int.tmod (wrap64 (rd l1 x6_2)) (x5_2.length : Int)) = j_ := ⟨_, rfl⟩
                              replace H : (if 0 ≤ (ji20) then (if (ji20) < (x5_2.length : Int) then (gluepotlaw06_CheckedOrder.l0 k2 l0 l1 ((x5_2.set ((ji17) : Int).toNat (rd x5_2 (ji20))).set ((ji20) : Int).toNat (rd x5_2 (ji17))) (wrap64 (x6_2 + 1))) else (none)) else (none)) = some r := by first | (rw [hji20] at H; exact H) | (simp only [hji20] at H ⊢; exact H)
                              by_cases c21 : 0 ≤ (ji20)
                              · rw [if_pos c21] at H
                                have c21b0 : decide (0 ≤ (ji20)) = true := decide_eq_true c21
                                clear c21
                                by_cases c22 : (ji20) < (x5_2.length : Int)
                                · rw [if_pos c22] at H
                                  have c22b0 : decide ((ji20) < (x5_2.length : Int)) = true := decide_eq_true c22
                                  clear c22
                                  obtain ⟨y134, hy134⟩ : ∃ y_ : List Int, y_ = (x5_2.set ((ji17) : Int).toNat (rd x5_2 (ji20))) := ⟨_, rfl⟩
                                  replace H : (gluepotlaw06_CheckedOrder.l0 k2 l0 l1 (y134.set ((ji20) : Int).toNat (rd x5_2 (ji17))) (wrap64 (x6_2 + 1))) = some r := by first | (rw [hy134]; with_reducible exact H) | (have H2_ := (Option.bind_some _ _).symm.trans H; rw [hy134]; with_reducible exact H2_) | (have H2_ := (Option.bind_some _ _).symm.trans H; with_reducible exact H2_) | with_reducible exact H | (rw [hy134]; exact H) | exact H
                                  have Ny134 := Aside0.mk hy134
                                  clear hy134
                                  obtain ⟨y135, hy135⟩ : ∃ y_ : List Int, y_ = (y134.set ((ji20) : Int).toNat (rd x5_2 (ji17))) := ⟨_, rfl⟩
                                  replace H : (gluepotlaw06_CheckedOrder.l0 k2 l0 l1 y135 (wrap64 (x6_2 + 1))) = some r := by first | (rw [hy135]; with_reducible exact H) | (have H2_ := (Option.bind_some _ _).symm.trans H; rw [hy135]; with_reducible exact H2_) | (have H2_ := (Option.bind_some _ _).symm.trans H; with_reducible exact H2_) | with_reducible exact H | (rw [hy135]; exact H) | exact H
                                  have Ny135 := Aside0.mk hy135
                                  clear hy135
                                  have H' := Aside0.mk H
                                  clear H
                                  obtain ⟨Ao25, co25, eo25⟩ := Kd.R_slice HO_5.out
                                  subst eo25
                                  have p131 : 0 ≤ (x6_2 : Int) := of_decide_eq_true (by first | (with_reducible assumption) | assumption)
                                  have q131 : x6_2 < (l1.length : Int) := of_decide_eq_true (by first | (with_reducible assumption) | assumption)
                                  obtain ⟨ad131, e131, hx131_0⟩ := Kd.at_int HR1.out x6_2 p131 q131
                                  cases e131
                                  replace hx131_0 := (HB.out.cell (World.block_lt_of_cell? w _ hx131_0)).trans hx131_0
                                  replace p131 := eq_true p131
                                  replace q131 := eq_true q131
                                  have p132 : 0 ≤ ((ji17) : Int) := of_decide_eq_true (by first | (with_reducible assumption) | assumption)
                                  have q132 : (ji17) < (x5_2.length : Int) := of_decide_eq_true (by first | (with_reducible assumption) | assumption)
                                  obtain ⟨ad132, e132, hx132_0⟩ := Kd.at_int (Kd.R_reads' HO_5.out).2.2 (ji17) p132 q132
                                  cases e132
                                  replace p132 := eq_true p132
                                  replace q132 := eq_true q132
                                  have p133 : 0 ≤ ((ji20) : Int) := of_decide_eq_true (by first | (with_reducible assumption) | assumption)
                                  have q133 : (ji20) < (x5_2.length : Int) := of_decide_eq_true (by first | (with_reducible assumption) | assumption)
                                  obtain ⟨ad133, e133, hx133_0⟩ := Kd.at_int (Kd.R_reads' HO_5.out).2.2 (ji20) p133 q133
                                  obtain rfl : ad132 = ad133 := (by injection e133)
                                  replace p133 := eq_true p133
                                  replace q133 := eq_true q133
                                  have p23 : 0 ≤ ((ji17) : Int) := of_decide_eq_true (by first | (with_reducible assumption) | assumption)
                                  have q23 : ((ji17) : Int) < ((x5_2.length : Int) : Int) := of_decide_eq_true (by first | (with_reducible assumption) | assumption)
                                  obtain ⟨go23, co23, eo23, gb23, gl23, cl23, HG23⟩ := Kd.R_form HO_5.out (by omega)
                                  (first | cases eo23 | (injection eo23 with ea_ en_ ec_; (first | subst ea_ | (injection ea_ with ea_; subst ea_)); subst ec_; clear en_))
                                  have GB23 := Aside0.mk gb23
                                  have GG23 := Aside0.mk HG23
                                  clear gb23 gl23 HG23
                                  (first | simp only [add_plain] at hx132_0 | skip)
                                  (first | simp only [add_plain] at hx133_0 | skip)
                                  obtain ⟨hx23_0, hf23_0⟩ := Kd.R_celln 0 HO_5.out ((ji17) : Int) p23 q23
                                  replace p23 := eq_true p23
                                  replace q23 := eq_true q23
                                  have hp24 : 0 ≤ ((ji20) : Int) := of_eq_true p133
                                  have hq24 : ((ji20) : Int) < ((x5_2.length : Int) : Int) := of_eq_true q133
                                  obtain ⟨hx24_0, hf24_0⟩ := Kd.R_celln 0 HO_5.out ((ji20) : Int) hp24 hq24
                                  have HP26 := Aside0.mk (Kd.R_putg HO_5.out ((ji17) : Int) (rd x5_2 (ji20)))
                                  have HP27 := Aside0.mk (Kd.R_putg HP26.out.1 ((ji20) : Int) (rd x5_2 (ji17)))
                                  obtain ⟨hx25_0, hf25_0⟩ := Kd.R_celln 0 HP26.out.1 ((ji20) : Int) hp24 (by simpa using hq24)
                                  clear hp24 hq24
                                  go_wp2_with fail
                                  go_region
                                  all_goals go_wp2
                                  all_goals go_region
                                  all_goals go_wp2
                                  have HB2 := Aside0.mk ((HB.out.setCell (p := ⟨go23, ((ji17) : Int).toNat, none⟩) GB23.out (.int .i64 (rd x5_2 (ji20)))).setCell (p := ⟨go23, ((ji20) : Int).toNat, none⟩) GB23.out (.int .i64 (rd x5_2 (ji17))))
                                  have HO2 : Aside0 (Kd.R (Kd.int .i64) 3 ((wr.setCell ⟨go23, ((ji17) : Int).toNat, none⟩ (.int .i64 (rd x5_2 (ji20)))).setCell ⟨go23, ((ji20) : Int).toNat, none⟩ (.int .i64 (rd x5_2 (ji17)))) w.heap.size (fun _ => True) (.slice (some ⟨go23, 0, none⟩) x5_2.length co25) y135) := ⟨by rw [Ny135.out, Ny134.out]; exact HP27.out.1⟩
                                  clear HP26 HP27 hx24_0 hf24_0 hx25_0 hf25_0 hx23_0 hf23_0
                                  go_roundg k2
                                  case measure => have := HK2.out; omega
                                  case rel => exact ⟨(y135), (wrap64 (x6_2 + 1)), rfl, H', ⟨by have := HK2.out; omega⟩, ⟨Kd.R_drew (Kd.R_drew HO2.out)⟩, ⟨HB2.out.drew.drew⟩⟩
                                · rw [if_neg c22] at H
                                  exact absurd H (by simp)
                              · rw [if_neg c21] at H
                                exact absurd H (by simp)
                            · rw [if_neg c19] at H
                              exact absurd H (by simp)
                          · rw [if_neg c18] at H
                            exact absurd H (by simp)
                        · rw [if_neg c16] at H
                          exact absurd H (by simp)
                    · rw [if_neg c14] at H
                      have c14b0 : decide (0 < (x5_2.length : Int)) = false := decide_eq_false c14
                      have c14b1 : decide (0 < x5_2.length) = false := decide_eq_false (by omega)
                      clear c14
                      have H' := Aside0.mk H
                      clear H
                      obtain ⟨Ao30, co30, eo30⟩ := Kd.R_slice HO_5.out
                      subst eo30
                      go_wp2
                      repeat (go_quiet (fail); try go_wp2)
                      go_meet
                      case rel => exact ⟨_, (x5_2), H', ⟨by have := HJ4.out; have := HK2.out; first | omega | exact Nat.le_refl _⟩, ⟨by (with_reducible repeat (first | apply Kd.R_alloc | apply Kd.R_drewN | apply Kd.R_drew)); exact HO_5.out⟩, ⟨by repeat (first | (with_reducible first | exact HB.out | apply below_alloc | apply pw_below_drewN | apply below_drew1) | exact HB.out)⟩⟩
                  · rw [if_neg c13] at H
                    have c13b0 : decide (x6_2 < (l1.length : Int)) = false := decide_eq_false c13
                    clear c13
                    (first | rw [c13b0] | (simp only [i64_w, i32_w]; rw [c13b0]) | skip)
                    have H' := Aside0.mk H
                    clear H
                    go_wp2
                    repeat (go_quiet (fail); try go_wp2)
                    go_meet
                    case rel => exact ⟨_, (x5_2), H', ⟨by have := HJ4.out; have := HK2.out; first | omega | exact Nat.le_refl _⟩, ⟨by (with_reducible repeat (first | apply Kd.R_alloc | apply Kd.R_drewN | apply Kd.R_drew)); exact HO_5.out⟩, ⟨by repeat (first | (with_reducible first | exact HB.out | apply below_alloc | apply pw_below_drewN | apply below_drew1) | exact HB.out)⟩⟩
            case rest =>
              clear HC9
              try clear c1
              try clear p1
              try clear q1
              try clear hx1
              try clear c2
              try clear p2
              try clear q2
              try clear hx2
              try clear hf2
              try clear c4
              try clear c5
              try clear c6
              try clear c6b0
              try clear c6b1
              try clear p6
              try clear c7
              try clear c8
              try clear c13
              try clear c13b0
              try clear p13
              try clear q13
              try clear hx13
              try clear c14
              try clear c14b0
              try clear c14b1
              try clear c15
              try clear c15b0
              try clear c15b1
              try clear c15b2
              try clear c16
              try clear c16b0
              try clear c18
              try clear c18b0
              try clear c19
              try clear c19b0
              try clear c21
              try clear c21b0
              try clear c22
              try clear c22b0
              try clear p23
              try clear q23
              try clear hx23
              try clear hf23
              try clear p24
              try clear q24
              try clear hx24
              try clear hf24
              try clear hx131_0
              try clear hx132_0
              try clear hx133_0
              try clear hx23_0
              try clear hx24_0
              try clear p131
              try clear p132
              try clear p133
              try clear p2
              try clear p23
              try clear p24
              try clear q131
              try clear q132
              try clear q133
              try clear q23
              try clear q24
              obtain ⟨kq, x5_8, HA, HJ8, HO_5, HB⟩ := hcut
              cases kq with
              | zero => exact absurd HA.out (by simp [gluepotlaw06_CheckedOrder.j2])
              | succ kj8 =>
                have H := HA.out
                clear HA
                simp only [gluepotlaw06_CheckedOrder.j2] at H
                replace H := Option.bind_eq_some_iff.mp H
                obtain ⟨⟨t136, t137⟩, A310, H⟩ := H
                replace H : ((checked_Sum.f kj8 x5_8).bind fun bt138 => (if t136 = bt138.1 then (gluepotlaw06_CheckedOrder.j3 kj8 l0 (t137 != bt138.2)) else (gluepotlaw06_CheckedOrder.j3 kj8 l0 true))) = some r := H
                have A31 := Aside0.mk A310
                clear A310
                replace H := Option.bind_eq_some_iff.mp H
                obtain ⟨⟨t138, t139⟩, A320, H⟩ := H
                replace H : (if t136 = t138 then (gluepotlaw06_CheckedOrder.j3 kj8 l0 (t137 != t139)) else (gluepotlaw06_CheckedOrder.j3 kj8 l0 true)) = some r := H
                have A32 := Aside0.mk A320
                clear A320
                have HC33 := Aside0.mk H
                clear H
                go_upto_region 14 with (first | (go_at_call 17; (with_reducible refine (checked_Sum.calls kj8 _ _ l0 t136 t137 _ ?side1 ?side2 A31.out).mono ?_); (case side1 => repeat (first | exact (Kd.C_below HR0.out HB.out) | (with_reducible refine Kd.C_alloc ?_ _) | (with_reducible refine Kd.C_drewN ?_ _) | (with_reducible refine Kd.C_drew ?_))); (case side2 => exact HC0.out); rintro e w' ⟨rfl, ⟨nd, rfl⟩⟩; (try first | exact ⟨rfl, _, World.drewN_drewN _ _ _⟩ | exact ⟨rfl, _, Eq.trans (World.drewN_drewN _ _ _) (congrArg (World.drewN _) (Nat.add_assoc _ _ _))⟩); obtain ⟨Ao34, co34, eo34⟩ := Kd.R_slice HO_5.out; subst eo34) | (go_at_call 17; (with_reducible refine (checked_Sum.calls kj8 _ _ x5_8 t138 t139 _ ?side1 ?side2 A32.out).mono ?_); (case side1 => repeat (first | exact (Kd.R_reads' HO_5.out).2.2 | (with_reducible refine Kd.C_alloc ?_ _) | (with_reducible refine Kd.C_drewN ?_ _) | (with_reducible refine Kd.C_drew ?_))); (case side2 => exact (Kd.R_reads' HO_5.out).2.1); rintro e w' ⟨rfl, ⟨nd, rfl⟩⟩; (try first | exact ⟨rfl, _, World.drewN_drewN _ _ _⟩ | exact ⟨rfl, _, Eq.trans (World.drewN_drewN _ _ _) (congrArg (World.drewN _) (Nat.add_assoc _ _ _))⟩)))
                repeat (go_quiet (first | (go_at_call 17; (with_reducible refine (checked_Sum.calls kj8 _ _ l0 t136 t137 _ ?side1 ?side2 A31.out).mono ?_); (case side1 => repeat (first | exact (Kd.C_below HR0.out HB.out) | (with_reducible refine Kd.C_alloc ?_ _) | (with_reducible refine Kd.C_drewN ?_ _) | (with_reducible refine Kd.C_drew ?_))); (case side2 => exact HC0.out); rintro e w' ⟨rfl, ⟨nd, rfl⟩⟩; (try first | exact ⟨rfl, _, World.drewN_drewN _ _ _⟩ | exact ⟨rfl, _, Eq.trans (World.drewN_drewN _ _ _) (congrArg (World.drewN _) (Nat.add_assoc _ _ _))⟩); obtain ⟨Ao34, co34, eo34⟩ := Kd.R_slice HO_5.out; subst eo34) | (go_at_call 17; (with_reducible refine (checked_Sum.calls kj8 _ _ x5_8 t138 t139 _ ?side1 ?side2 A32.out).mono ?_); (case side1 => repeat (first | exact (Kd.R_reads' HO_5.out).2.2 | (with_reducible refine Kd.C_alloc ?_ _) | (with_reducible refine Kd.C_drewN ?_ _) | (with_reducible refine Kd.C_drew ?_))); (case side2 => exact (Kd.R_reads' HO_5.out).2.1); rintro e w' ⟨rfl, ⟨nd, rfl⟩⟩; (try first | exact ⟨rfl, _, World.drewN_drewN _ _ _⟩ | exact ⟨rfl, _, Eq.trans (World.drewN_drewN _ _ _) (congrArg (World.drewN _) (Nat.add_assoc _ _ _))⟩))); go_upto_region 14 with (first | (go_at_call 17; (with_reducible refine (checked_Sum.calls kj8 _ _ l0 t136 t137 _ ?side1 ?side2 A31.out).mono ?_); (case side1 => repeat (first | exact (Kd.C_below HR0.out HB.out) | (with_reducible refine Kd.C_alloc ?_ _) | (with_reducible refine Kd.C_drewN ?_ _) | (with_reducible refine Kd.C_drew ?_))); (case side2 => exact HC0.out); rintro e w' ⟨rfl, ⟨nd, rfl⟩⟩; (try first | exact ⟨rfl, _, World.drewN_drewN _ _ _⟩ | exact ⟨rfl, _, Eq.trans (World.drewN_drewN _ _ _) (congrArg (World.drewN _) (Nat.add_assoc _ _ _))⟩); obtain ⟨Ao34, co34, eo34⟩ := Kd.R_slice HO_5.out; subst eo34) | (go_at_call 17; (with_reducible refine (checked_Sum.calls kj8 _ _ x5_8 t138 t139 _ ?side1 ?side2 A32.out).mono ?_); (case side1 => repeat (first | exact (Kd.R_reads' HO_5.out).2.2 | (with_reducible refine Kd.C_alloc ?_ _) | (with_reducible refine Kd.C_drewN ?_ _) | (with_reducible refine Kd.C_drew ?_))); (case side2 => exact (Kd.R_reads' HO_5.out).2.1); rintro e w' ⟨rfl, ⟨nd, rfl⟩⟩; (try first | exact ⟨rfl, _, World.drewN_drewN _ _ _⟩ | exact ⟨rfl, _, Eq.trans (World.drewN_drewN _ _ _) (congrArg (World.drewN _) (Nat.add_assoc _ _ _))⟩))))
                (try simp only [Act.put, List.setIfInBounds_toArray, List.set_cons_zero, List.set_cons_succ])
                go_cut [95] (fun v95 wc => ∃ (kq : Nat) (x95_32 : Bool), v95 = .bool x95_32 ∧ Aside0 (gluepotlaw06_CheckedOrder.j3 kq l0 x95_32 = some r) ∧ Aside0 (kq ≤ kj8) ∧ Aside0 (Below w.heap.size w wc))
                case first =>
                  have H := HC33.out
                  clear HC33
                  by_cases c35 : t136 = t138
                  · rw [if_pos c35] at H
                    have c35b0 : (t136 == t138) = true := beq_iff_eq.mpr c35
                    have c35b1 : (t136 != t138) = false := bne_eq_false_iff_eq.mpr c35
                    clear c35
                    (first | rw [c35b0] | (simp only [i64_w, i32_w]; rw [c35b0]) | skip)
                    have H' := Aside0.mk H
                    clear H
                    go_wp2
                    repeat (go_quiet (fail); try go_wp2)
                    go_meet
                    case rel => exact ⟨_, ((t137 != t139)), (by first | rfl | (simp; done) | (simp [*]; done)), H', ⟨by have := HJ4.out; have := HJ8.out; first | omega | exact Nat.le_refl _⟩, ⟨by repeat (first | (with_reducible first | exact HB.out | apply below_alloc | apply pw_below_drewN | apply below_drew1) | exact HB.out)⟩⟩
                  · rw [if_neg c35] at H
                    have c35b0 : (t136 == t138) = false := beq_eq_false_iff_ne.mpr c35
                    have c35b1 : (t136 != t138) = true := bne_iff_ne.mpr c35
                    (first | rw [c35b0] | (simp only [i64_w, i32_w]; rw [c35b0]) | skip)
                    have H' := Aside0.mk H
                    clear H
                    go_wp2
                    repeat (go_quiet (fail); try go_wp2)
                    go_meet
                    case rel => exact ⟨_, (true), (by first | rfl | (simp; done) | (simp [*]; done)), H', ⟨by have := HJ4.out; have := HJ8.out; first | omega | exact Nat.le_refl _⟩, ⟨by repeat (first | (with_reducible first | exact HB.out | apply below_alloc | apply pw_below_drewN | apply below_drew1) | exact HB.out)⟩⟩
                case rest =>
                  clear HC33
                  try clear c1
                  try clear p1
                  try clear q1
                  try clear hx1
                  try clear c2
                  try clear p2
                  try clear q2
                  try clear hx2
                  try clear hf2
                  try clear c3
                  try clear c4
                  try clear c5
                  try clear c6
                  try clear c6b0
                  try clear c6b1
                  try clear p6
                  try clear c7
                  try clear c8
                  try clear c13
                  try clear c13b0
                  try clear p13
                  try clear q13
                  try clear hx13
                  try clear c14
                  try clear c14b0
                  try clear c14b1
                  try clear c15
                  try clear c15b0
                  try clear c15b1
                  try clear c15b2
                  try clear c16
                  try clear c16b0
                  try clear c18
                  try clear c18b0
                  try clear c19
                  try clear c19b0
                  try clear c21
                  try clear c21b0
                  try clear c22
                  try clear c22b0
                  try clear p23
                  try clear q23
                  try clear hx23
                  try clear hf23
                  try clear p24
                  try clear q24
                  try clear hx24
                  try clear hf24
                  try clear c35
                  try clear c35b0
                  try clear c35b1
                  try clear hx131_0
                  try clear hx132_0
                  try clear hx133_0
                  try clear hx23_0
                  try clear hx24_0
                  try clear p1
                  try clear p13
                  try clear p131
                  try clear p132
                  try clear p133
                  try clear p2
                  try clear p23
                  try clear p24
                  try clear p6
                  try clear q1
                  try clear q13
                  try clear q131
                  try clear q132
                  try clear q133
                  try clear q2
                  try clear q23
                  try clear q24
                  obtain ⟨kq, x95_32, rfl, HA, HJ32, HB⟩ := hcut
                  cases kq with
                  | zero => exact absurd HA.out (by simp [gluepotlaw06_CheckedOrder.j3])
                  | succ kj32 =>
                    have H := HA.out
                    clear HA
                    simp only [gluepotlaw06_CheckedOrder.j3] at H
                    by_cases c36 : x95_32 = true
                    · subst c36
                      have H1 : (some false) = some r := by rw [if_pos rfl] at H; exact H
                      clear H
                      have H := H1
                      clear H1
                      obtain rfl := Option.some.inj H
                      go_wp2
                      repeat (go_quiet (fail); try go_wp2)
                      go_ret
                      exact ⟨by first | rfl | (simp [errW_none, errW_some] <;> rfl) | (simp [*, errW_none, errW_some] <;> rfl), by repeat (first | (with_reducible first | exact HB.out | apply below_alloc | apply pw_below_drewN | apply below_drew1) | exact HB.out)⟩
                    · replace c36 := Bool.eq_false_iff.mpr c36
                      subst c36
                      have H1 : (gluepotlaw06_CheckedOrder.l1 kj32 l0 1) = some r := by rw [if_neg (show ¬ (false = true) by decide)] at H; exact H
                      clear H
                      have H := H1
                      clear H1
                      have H' := Aside0.mk H
                      clear H
                      go_wp2
                      repeat (go_quiet (fail); try go_wp2)
                      go_loopg [15] kj32 (fun kq v15 w' => ∃ (x15_4 : Int), v15 = .int .i64 x15_4 ∧ Aside0 (gluepotlaw06_CheckedOrder.l1 kq l0 x15_4 = some r) ∧ Aside0 (kq ≤ kj32) ∧ Aside0 (Below w.heap.size w w'))
                      case atStart => exact ⟨(1), (by first | rfl | (simp; done) | (simp [*]; done)), H', ⟨Nat.le_refl _⟩, ⟨by repeat (first | (with_reducible first | exact HB.out | apply below_alloc | apply pw_below_drewN | apply below_drew1) | exact HB.out)⟩⟩
                      case round =>
                        clear H'
                        try clear c1
                        try clear p1
                        try clear q1
                        try clear hx1
                        try clear c2
                        try clear p2
                        try clear q2
                        try clear hx2
                        try clear hf2
                        try clear c3
                        try clear c4
                        try clear c5
                        try clear c6
                        try clear c6b0
                        try clear c6b1
                        try clear p6
                        try clear c7
                        try clear c8
                        try clear c13
                        try clear c13b0
                        try clear p13
                        try clear q13
                        try clear hx13
                        try clear c14
                        try clear c14b0
                        try clear c14b1
                        try clear c15
                        try clear c15b0
                        try clear c15b1
                        try clear c15b2
                        try clear c16
                        try clear c16b0
                        try clear c18
                        try clear c18b0
                        try clear c19
                        try clear c19b0
                        try clear c21
                        try clear c21b0
                        try clear c22
                        try clear c22b0
                        try clear p23
                        try clear q23
                        try clear hx23
                        try clear hf23
                        try clear p24
                        try clear q24
                        try clear hx24
                        try clear hf24
                        try clear c35
                        try clear c35b0
                        try clear c35b1
                        try clear c36
                        try clear hx131_0
                        try clear hx132_0
                        try clear hx133_0
                        try clear hx23_0
                        try clear hx24_0
                        try clear p1
                        try clear p13
                        try clear p131
                        try clear p132
                        try clear p133
                        try clear p2
                        try clear p23
                        try clear p24
                        try clear p6
                        try clear q1
                        try clear q13
                        try clear q131
                        try clear q132
                        try clear q133
                        try clear q2
                        try clear q23
                        try clear q24
                        obtain ⟨x15_4, rfl, HA, HK4, HB⟩ := hrel
                        cases gk with
                        | zero => exact absurd HA.out (by simp [gluepotlaw06_CheckedOrder.l1])
                        | succ k4 =>
                          have H := HA.out
                          clear HA
                          simp only [gluepotlaw06_CheckedOrder.l1] at H
                          by_cases c37 : x15_4 < (l0.length : Int)
                          · rw [if_pos c37] at H
                            have c37b0 : decide (x15_4 < (l0.length : Int)) = true := decide_eq_true c37
                            clear c37
                            obtain ⟨ji38, hji38⟩ : ∃ j_ : Int, (wrap64 (x15_4 - 1)) = j_ := ⟨_, rfl⟩
                            replace H : (if 0 ≤ (ji38) then (if (ji38) < (l0.length : Int) then (if 0 ≤ x15_4 then ((checked_Add.f (rd l0 (ji38)) (rd l0 x15_4)).bind fun bt142 => ((checked_Add.f (rd l0 x15_4) (rd l0 (ji38))).bind fun bt144 => ((checked_Mul.f k4 (rd l0 (ji38)) (rd l0 x15_4)).bind fun bt146 => ((checked_Mul.f k4 (rd l0 x15_4) (rd l0 (ji38))).bind fun bt148 => (if bt142.1 = bt144.1 then (if (bt142.2 != bt144.2) = true then (some false) else (if bt146.1 = bt148.1 then (if (bt146.2 != bt148.2) = true then (some false) else (if bt142.2 = true then (if (wrap64 (bt142.1 - (rd l0 (ji38)))) = (rd l0 x15_4) then (if bt146.2 = true then (if (rd l0 (ji38)) = 0 then (gluepotlaw06_CheckedOrder.l1 k4 l0 (wrap64 (x15_4 + 1))) else (if (wrap64 (Int.tdiv bt146.1 (rd l0 (ji38)))) = (rd l0 x15_4) then (gluepotlaw06_CheckedOrder.l1 k4 l0 (wrap64 (x15_4 + 1))) else (some false))) else (gluepotlaw06_CheckedOrder.l1 k4 l0 (wrap64 (x15_4 + 1)))) else (some false)) else (if bt146.2 = true then (if (rd l0 (ji38)) = 0 then (gluepotlaw06_CheckedOrder.l1 k4 l0 (wrap64 (x15_4 + 1))) else (if (wrap64 (Int.tdiv bt146.1 (rd l0 (ji38)))) = (rd l0 x15_4) then (gluepotlaw06_CheckedOrder.l1 k4 l0 (wrap64 (x15_4 + 1))) else (some false))) else (gluepotlaw06_CheckedOrder.l1 k4 l0 (wrap64 (x15_4 + 1)))))) else (some false))) else (some false)))))) else (none)) else (none)) else (none)) = some r := by first | (rw [hji38] at H; exact H) | (simp only [hji38] at H ⊢; exact H)
                            have hji38w : (IntKind.i64.wrap (x15_4 - 1)) = ji38 := (i64_w _).trans hji38
                            by_cases c39 : 0 ≤ (ji38)
                            · rw [if_pos c39] at H
                              have c39b0 : decide (0 ≤ (ji38)) = true := decide_eq_true c39
                              clear c39
                              by_cases c40 : (ji38) < (l0.length : Int)
                              · rw [if_pos c40] at H
                                have c40b0 : decide ((ji38) < (l0.length : Int)) = true := decide_eq_true c40
                                clear c40
                                by_cases c41 : 0 ≤ x15_4
                                · rw [if_pos c41] at H
                                  have c41b0 : decide (0 ≤ x15_4) = true := decide_eq_true c41
                                  clear c41
                                  replace H := Option.bind_eq_some_iff.mp H
                                  obtain ⟨⟨t142, t143⟩, A420, H⟩ := H
                                  replace H : ((checked_Add.f (rd l0 x15_4) (rd l0 (ji38))).bind fun bt144 => ((checked_Mul.f k4 (rd l0 (ji38)) (rd l0 x15_4)).bind fun bt146 => ((checked_Mul.f k4 (rd l0 x15_4) (rd l0 (ji38))).bind fun bt148 => (if t142 = bt144.1 then (if (t143 != bt144.2) = true then (some false) else (if bt146.1 = bt148.1 then (if (bt146.2 != bt148.2) = true then (some false) else (if t143 = true then (if (wrap64 (t142 - (rd l0 (ji38)))) = (rd l0 x15_4) then (if bt146.2 = true then (if (rd l0 (ji38)) = 0 then (gluepotlaw06_CheckedOrder.l1 k4 l0 (wrap64 (x15_4 + 1))) else (if (wrap64 (Int.tdiv bt146.1 (rd l0 (ji38)))) = (rd l0 x15_4) then (gluepotlaw06_CheckedOrder.l1 k4 l0 (wrap64 (x15_4 + 1))) else (some false))) else (gluepotlaw06_CheckedOrder.l1 k4 l0 (wrap64 (x15_4 + 1)))) else (some false)) else (if bt146.2 = true then (if (rd l0 (ji38)) = 0 then (gluepotlaw06_CheckedOrder.l1 k4 l0 (wrap64 (x15_4 + 1))) else (if (wrap64 (Int.tdiv bt146.1 (rd l0 (ji38)))) = (rd l0 x15_4) then (gluepotlaw06_CheckedOrder.l1 k4 l0 (wrap64 (x15_4 + 1))) else (some false))) else (gluepotlaw06_CheckedOrder.l1 k4 l0 (wrap64 (x15_4 + 1)))))) else (some false))) else (some false))))) = some r := H
                                  have A42 := Aside0.mk A420
                                  clear A420
                                  replace H := Option.bind_eq_some_iff.mp H
                                  obtain ⟨⟨t144, t145⟩, A430, H⟩ := H
                                  replace H : ((checked_Mul.f k4 (rd l0 (ji38)) (rd l0 x15_4)).bind fun bt146 => ((checked_Mul.f k4 (rd l0 x15_4) (rd l0 (ji38))).bind fun bt148 => (if t142 = t144 then (if (t143 != t145) = true then (some false) else (if bt146.1 = bt148.1 then (if (bt146.2 != bt148.2) = true then (some false) else (if t143 = true then (if (wrap64 (t142 - (rd l0 (ji38)))) = (rd l0 x15_4) then (if bt146.2 = true then (if (rd l0 (ji38)) = 0 then (gluepotlaw06_CheckedOrder.l1 k4 l0 (wrap64 (x15_4 + 1))) else (if (wrap64 (Int.tdiv bt146.1 (rd l0 (ji38)))) = (rd l0 x15_4) then (gluepotlaw06_CheckedOrder.l1 k4 l0 (wrap64 (x15_4 + 1))) else (some false))) else (gluepotlaw06_CheckedOrder.l1 k4 l0 (wrap64 (x15_4 + 1)))) else (some false)) else (if bt146.2 = true then (if (rd l0 (ji38)) = 0 then (gluepotlaw06_CheckedOrder.l1 k4 l0 (wrap64 (x15_4 + 1))) else (if (wrap64 (Int.tdiv bt146.1 (rd l0 (ji38)))) = (rd l0 x15_4) then (gluepotlaw06_CheckedOrder.l1 k4 l0 (wrap64 (x15_4 + 1))) else (some false))) else (gluepotlaw06_CheckedOrder.l1 k4 l0 (wrap64 (x15_4 + 1)))))) else (some false))) else (some false)))) = some r := H
                                  have A43 := Aside0.mk A430
                                  clear A430
                                  replace H := Option.bind_eq_some_iff.mp H
                                  obtain ⟨⟨t146, t147⟩, A440, H⟩ := H
                                  replace H : ((checked_Mul.f k4 (rd l0 x15_4) (rd l0 (ji38))).bind fun bt148 => (if t142 = t144 then (if (t143 != t145) = true then (some false) else (if t146 = bt148.1 then (if (t147 != bt148.2) = true then (some false) else (if t143 = true then (if (wrap64 (t142 - (rd l0 (ji38)))) = (rd l0 x15_4) then (if t147 = true then (if (rd l0 (ji38)) = 0 then (gluepotlaw06_CheckedOrder.l1 k4 l0 (wrap64 (x15_4 + 1))) else (if (wrap64 (Int.tdiv t146 (rd l0 (ji38)))) = (rd l0 x15_4) then (gluepotlaw06_CheckedOrder.l1 k4 l0 (wrap64 (x15_4 + 1))) else (some false))) else (gluepotlaw06_CheckedOrder.l1 k4 l0 (wrap64 (x15_4 + 1)))) else (some false)) else (if t147 = true then (if (rd l0 (ji38)) = 0 then (gluepotlaw06_CheckedOrder.l1 k4 l0 (wrap64 (x15_4 + 1))) else (if (wrap64 (Int.tdiv t146 (rd l0 (ji38)))) = (rd l0 x15_4) then (gluepotlaw06_CheckedOrder.l1 k4 l0 (wrap64 (x15_4 + 1))) else (some false))) else (gluepotlaw06_CheckedOrder.l1 k4 l0 (wrap64 (x15_4 + 1)))))) else (some false))) else (some false))) = some r := H
                                  have A44 := Aside0.mk A440
                                  clear A440
                                  replace H := Option.bind_eq_some_iff.mp H
                                  obtain ⟨⟨t148, t149⟩, A450, H⟩ := H
                                  replace H : (if t142 = t144 then (if (t143 != t145) = true then (some false) else (if t146 = t148 then (if (t147 != t149) = true then (some false) else (if t143 = true then (if (wrap64 (t142 - (rd l0 (ji38)))) = (rd l0 x15_4) then (if t147 = true then (if (rd l0 (ji38)) = 0 then (gluepotlaw06_CheckedOrder.l1 k4 l0 (wrap64 (x15_4 + 1))) else (if (wrap64 (Int.tdiv t146 (rd l0 (ji38)))) = (rd l0 x15_4) then (gluepotlaw06_CheckedOrder.l1 k4 l0 (wrap64 (x15_4 + 1))) else (some false))) else (gluepotlaw06_CheckedOrder.l1 k4 l0 (wrap64 (x15_4 + 1)))) else (some false)) else (if t147 = true then (if (rd l0 (ji38)) = 0 then (gluepotlaw06_CheckedOrder.l1 k4 l0 (wrap64 (x15_4 + 1))) else (if (wrap64 (Int.tdiv t146 (rd l0 (ji38)))) = (rd l0 x15_4) then (gluepotlaw06_CheckedOrder.l1 k4 l0 (wrap64 (x15_4 + 1))) else (some false))) else (gluepotlaw06_CheckedOrder.l1 k4 l0 (wrap64 (x15_4 + 1)))))) else (some false))) else (some false)) = some r := H
                                  have A45 := Aside0.mk A450
                                  clear A450
                                  by_cases c46 : t142 = t144
                                  · rw [if_pos c46] at H
                                    have c46b0 : (t142 == t144) = true := beq_iff_eq.mpr c46
                                    have c46b1 : (t142 != t144) = false := bne_eq_false_iff_eq.mpr c46
                                    clear c46
                                    by_cases c47 : (t143 != t145) = true
                                    · rw [if_pos c47] at H
                                      have c47b0 : (t143 != t145) = true := c47
                                      (try (have c47b1 : decide (t143 = t145) = false := by simpa using c47))
                                      (try (have c47b2 : (t143 == t145) = false := by simpa using c47))
                                      (try (have c47b3 : ¬ (t143 = t145) := by simpa using c47))
                                      clear c47
                                      obtain rfl := Option.some.inj H
                                      have p140 : 0 ≤ ((ji38) : Int) := of_decide_eq_true (by first | (with_reducible assumption) | assumption)
                                      have q140 : (ji38) < (l0.length : Int) := of_decide_eq_true (by first | (with_reducible assumption) | assumption)
                                      obtain ⟨ad140, e140, hx140_0⟩ := Kd.at_int HR0.out (ji38) p140 q140
                                      cases e140
                                      replace hx140_0 := (HB.out.cell (World.block_lt_of_cell? w _ hx140_0)).trans hx140_0
                                      replace p140 := eq_true p140
                                      replace q140 := eq_true q140
                                      have p141 : 0 ≤ (x15_4 : Int) := of_decide_eq_true (by first | (with_reducible assumption) | assumption)
                                      have q141 : x15_4 < (l0.length : Int) := of_decide_eq_true (by first | (with_reducible assumption) | assumption)
                                      obtain ⟨ad141, e141, hx141_0⟩ := Kd.at_int HR0.out x15_4 p141 q141
                                      obtain rfl : ad140 = ad141 := (by injection e141)
                                      replace hx141_0 := (HB.out.cell (World.block_lt_of_cell? w _ hx141_0)).trans hx141_0
                                      replace p141 := eq_true p141
                                      replace q141 := eq_true q141
                                      go_wp2_with (first | (go_at_call 10; (with_reducible refine (checked_Add.calls (rd l0 (ji38)) (rd l0 x15_4) t142 t143 _ A42.out).mono ?_); rintro e w' ⟨rfl, ⟨nd, rfl⟩⟩; (try first | exact ⟨rfl, _, World.drewN_drewN _ _ _⟩ | exact ⟨rfl, _, Eq.trans (World.drewN_drewN _ _ _) (congrArg (World.drewN _) (Nat.add_assoc _ _ _))⟩)) | (go_at_call 10; (with_reducible refine (checked_Add.calls (rd l0 x15_4) (rd l0 (ji38)) t144 t145 _ A43.out).mono ?_); rintro e w' ⟨rfl, ⟨nd, rfl⟩⟩; (try first | exact ⟨rfl, _, World.drewN_drewN _ _ _⟩ | exact ⟨rfl, _, Eq.trans (World.drewN_drewN _ _ _) (congrArg (World.drewN _) (Nat.add_assoc _ _ _))⟩)) | (go_at_call 12; (with_reducible refine (checked_Mul.calls k4 (rd l0 (ji38)) (rd l0 x15_4) t146 t147 _ A44.out).mono ?_); rintro e w' ⟨rfl, ⟨nd, rfl⟩⟩; (try first | exact ⟨rfl, _, World.drewN_drewN _ _ _⟩ | exact ⟨rfl, _, Eq.trans (World.drewN_drewN _ _ _) (congrArg (World.drewN _) (Nat.add_assoc _ _ _))⟩)) | (go_at_call 12; (with_reducible refine (checked_Mul.calls k4 (rd l0 x15_4) (rd l0 (ji38)) t148 t149 _ A45.out).mono ?_); rintro e w' ⟨rfl, ⟨nd, rfl⟩⟩; (try first | exact ⟨rfl, _, World.drewN_drewN _ _ _⟩ | exact ⟨rfl, _, Eq.trans (World.drewN_drewN _ _ _) (congrArg (World.drewN _) (Nat.add_assoc _ _ _))⟩)))
                                      repeat (go_quiet (first | (go_at_call 10; (with_reducible refine (checked_Add.calls (rd l0 (ji38)) (rd l0 x15_4) t142 t143 _ A42.out).mono ?_); rintro e w' ⟨rfl, ⟨nd, rfl⟩⟩; (try first | exact ⟨rfl, _, World.drewN_drewN _ _ _⟩ | exact ⟨rfl, _, Eq.trans (World.drewN_drewN _ _ _) (congrArg (World.drewN _) (Nat.add_assoc _ _ _))⟩)) | (go_at_call 10; (with_reducible refine (checked_Add.calls (rd l0 x15_4) (rd l0 (ji38)) t144 t145 _ A43.out).mono ?_); rintro e w' ⟨rfl, ⟨nd, rfl⟩⟩; (try first | exact ⟨rfl, _, World.drewN_drewN _ _ _⟩ | exact ⟨rfl, _, Eq.trans (World.drewN_drewN _ _ _) (congrArg (World.drewN _) (Nat.add_assoc _ _ _))⟩)) | (go_at_call 12; (with_reducible refine (checked_Mul.calls k4 (rd l0 (ji38)) (rd l0 x15_4) t146 t147 _ A44.out).mono ?_); rintro e w' ⟨rfl, ⟨nd, rfl⟩⟩; (try first | exact ⟨rfl, _, World.drewN_drewN _ _ _⟩ | exact ⟨rfl, _, Eq.trans (World.drewN_drewN _ _ _) (congrArg (World.drewN _) (Nat.add_assoc _ _ _))⟩)) | (go_at_call 12; (with_reducible refine (checked_Mul.calls k4 (rd l0 x15_4) (rd l0 (ji38)) t148 t149 _ A45.out).mono ?_); rintro e w' ⟨rfl, ⟨nd, rfl⟩⟩; (try first | exact ⟨rfl, _, World.drewN_drewN _ _ _⟩ | exact ⟨rfl, _, Eq.trans (World.drewN_drewN _ _ _) (congrArg (World.drewN _) (Nat.add_assoc _ _ _))⟩))); try go_wp2_with (first | (go_at_call 10; (with_reducible refine (checked_Add.calls (rd l0 (ji38)) (rd l0 x15_4) t142 t143 _ A42.out).mono ?_); rintro e w' ⟨rfl, ⟨nd, rfl⟩⟩; (try first | exact ⟨rfl, _, World.drewN_drewN _ _ _⟩ | exact ⟨rfl, _, Eq.trans (World.drewN_drewN _ _ _) (congrArg (World.drewN _) (Nat.add_assoc _ _ _))⟩)) | (go_at_call 10; (with_reducible refine (checked_Add.calls (rd l0 x15_4) (rd l0 (ji38)) t144 t145 _ A43.out).mono ?_); rintro e w' ⟨rfl, ⟨nd, rfl⟩⟩; (try first | exact ⟨rfl, _, World.drewN_drewN _ _ _⟩ | exact ⟨rfl, _, Eq.trans (World.drewN_drewN _ _ _) (congrArg (World.drewN _) (Nat.add_assoc _ _ _))⟩)) | (go_at_call 12; (with_reducible refine (checked_Mul.calls k4 (rd l0 (ji38)) (rd l0 x15_4) t146 t147 _ A44.out).mono ?_); rintro e w' ⟨rfl, ⟨nd, rfl⟩⟩; (try first | exact ⟨rfl, _, World.drewN_drewN _ _ _⟩ | exact ⟨rfl, _, Eq.trans (World.drewN_drewN _ _ _) (congrArg (World.drewN _) (Nat.add_assoc _ _ _))⟩)) | (go_at_call 12; (with_reducible refine (checked_Mul.calls k4 (rd l0 x15_4) (rd l0 (ji38)) t148 t149 _ A45.out).mono ?_); rintro e w' ⟨rfl, ⟨nd, rfl⟩⟩; (try first | exact ⟨rfl, _, World.drewN_drewN _ _ _⟩ | exact ⟨rfl, _, Eq.trans (World.drewN_drewN _ _ _) (congrArg (World.drewN _) (Nat.add_assoc _ _ _))⟩))))
                                      go_ret
                                      exact ⟨by first | rfl | (simp [errW_none, errW_some] <;> rfl) | (simp only [← hji38]; first | rfl | (simp [errW_none, errW_some] <;> rfl)) | (simp [*, errW_none, errW_some] <;> rfl), by repeat (first | (with_reducible first | exact HB.out | apply below_alloc | apply pw_below_drewN | apply below_drew1) | exact HB.out)⟩
                                    · rw [if_neg c47] at H
                                      have c47b0 : (t143 != t145) = false := by simpa using c47
                                      (try (have c47b1 : decide (t143 = t145) = true := by simpa using c47))
                                      (try (have c47b2 : (t143 == t145) = true := by simpa using c47))
                                      clear c47
                                      by_cases c48 : t146 = t148
                                      · rw [if_pos c48] at H
                                        have c48b0 : (t146 == t148) = true := beq_iff_eq.mpr c48
                                        have c48b1 : (t146 != t148) = false := bne_eq_false_iff_eq.mpr c48
                                        clear c48
                                        by_cases c49 : (t147 != t149) = true
                                        · rw [if_pos c49] at H
                                          have c49b0 : (t147 != t149) = true := c49
                                          (try (have c49b1 : decide (t147 = t149) = false := by simpa using c49))
                                          (try (have c49b2 : (t147 == t149) = false := by simpa using c49))
                                          (try (have c49b3 : ¬ (t147 = t149) := by simpa using c49))
                                          clear c49
                                          obtain rfl := Option.some.inj H
                                          have p140 : 0 ≤ ((ji38) : Int) := of_decide_eq_true (by first | (with_reducible assumption) | assumption)
                                          have q140 : (ji38) < (l0.length : Int) := of_decide_eq_true (by first | (with_reducible assumption) | assumption)
                                          obtain ⟨ad140, e140, hx140_0⟩ := Kd.at_int HR0.out (ji38) p140 q140
                                          cases e140
                                          replace hx140_0 := (HB.out.cell (World.block_lt_of_cell? w _ hx140_0)).trans hx140_0
                                          replace p140 := eq_true p140
                                          replace q140 := eq_true q140
                                          have p141 : 0 ≤ (x15_4 : Int) := of_decide_eq_true (by first | (with_reducible assumption) | assumption)
                                          have q141 : x15_4 < (l0.length : Int) := of_decide_eq_true (by first | (with_reducible assumption) | assumption)
                                          obtain ⟨ad141, e141, hx141_0⟩ := Kd.at_int HR0.out x15_4 p141 q141
                                          obtain rfl : ad140 = ad141 := (by injection e141)
                                          replace hx141_0 := (HB.out.cell (World.block_lt_of_cell? w _ hx141_0)).trans hx141_0
                                          replace p141 := eq_true p141
                                          replace q141 := eq_true q141
                                          go_wp2_with (first | (go_at_call 10; (with_reducible refine (checked_Add.calls (rd l0 (ji38)) (rd l0 x15_4) t142 t143 _ A42.out).mono ?_); rintro e w' ⟨rfl, ⟨nd, rfl⟩⟩; (try first | exact ⟨rfl, _, World.drewN_drewN _ _ _⟩ | exact ⟨rfl, _, Eq.trans (World.drewN_drewN _ _ _) (congrArg (World.drewN _) (Nat.add_assoc _ _ _))⟩)) | (go_at_call 10; (with_reducible refine (checked_Add.calls (rd l0 x15_4) (rd l0 (ji38)) t144 t145 _ A43.out).mono ?_); rintro e w' ⟨rfl, ⟨nd, rfl⟩⟩; (try first | exact ⟨rfl, _, World.drewN_drewN _ _ _⟩ | exact ⟨rfl, _, Eq.trans (World.drewN_drewN _ _ _) (congrArg (World.drewN _) (Nat.add_assoc _ _ _))⟩)) | (go_at_call 12; (with_reducible refine (checked_Mul.calls k4 (rd l0 (ji38)) (rd l0 x15_4) t146 t147 _ A44.out).mono ?_); rintro e w' ⟨rfl, ⟨nd, rfl⟩⟩; (try first | exact ⟨rfl, _, World.drewN_drewN _ _ _⟩ | exact ⟨rfl, _, Eq.trans (World.drewN_drewN _ _ _) (congrArg (World.drewN _) (Nat.add_assoc _ _ _))⟩)) | (go_at_call 12; (with_reducible refine (checked_Mul.calls k4 (rd l0 x15_4) (rd l0 (ji38)) t148 t149 _ A45.out).mono ?_); rintro e w' ⟨rfl, ⟨nd, rfl⟩⟩; (try first | exact ⟨rfl, _, World.drewN_drewN _ _ _⟩ | exact ⟨rfl, _, Eq.trans (World.drewN_drewN _ _ _) (congrArg (World.drewN _) (Nat.add_assoc _ _ _))⟩)))
                                          repeat (go_quiet (first | (go_at_call 10; (with_reducible refine (checked_Add.calls (rd l0 (ji38)) (rd l0 x15_4) t142 t143 _ A42.out).mono ?_); rintro e w' ⟨rfl, ⟨nd, rfl⟩⟩; (try first | exact ⟨rfl, _, World.drewN_drewN _ _ _⟩ | exact ⟨rfl, _, Eq.trans (World.drewN_drewN _ _ _) (congrArg (World.drewN _) (Nat.add_assoc _ _ _))⟩)) | (go_at_call 10; (with_reducible refine (checked_Add.calls (rd l0 x15_4) (rd l0 (ji38)) t144 t145 _ A43.out).mono ?_); rintro e w' ⟨rfl, ⟨nd, rfl⟩⟩; (try first | exact ⟨rfl, _, World.drewN_drewN _ _ _⟩ | exact ⟨rfl, _, Eq.trans (World.drewN_drewN _ _ _) (congrArg (World.drewN _) (Nat.add_assoc _ _ _))⟩)) | (go_at_call 12; (with_reducible refine (checked_Mul.calls k4 (rd l0 (ji38)) (rd l0 x15_4) t146 t147 _ A44.out).mono ?_); rintro e w' ⟨rfl, ⟨nd, rfl⟩⟩; (try first | exact ⟨rfl, _, World.drewN_drewN _ _ _⟩ | exact ⟨rfl, _, Eq.trans (World.drewN_drewN _ _ _) (congrArg (World.drewN _) (Nat.add_assoc _ _ _))⟩)) | (go_at_call 12; (with_reducible refine (checked_Mul.calls k4 (rd l0 x15_4) (rd l0 (ji38)) t148 t149 _ A45.out).mono ?_); rintro e w' ⟨rfl, ⟨nd, rfl⟩⟩; (try first | exact ⟨rfl, _, World.drewN_drewN _ _ _⟩ | exact ⟨rfl, _, Eq.trans (World.drewN_drewN _ _ _) (congrArg (World.drewN _) (Nat.add_assoc _ _ _))⟩))); try go_wp2_with (first | (go_at_call 10; (with_reducible refine (checked_Add.calls (rd l0 (ji38)) (rd l0 x15_4) t142 t143 _ A42.out).mono ?_); rintro e w' ⟨rfl, ⟨nd, rfl⟩⟩; (try first | exact ⟨rfl, _, World.drewN_drewN _ _ _⟩ | exact ⟨rfl, _, Eq.trans (World.drewN_drewN _ _ _) (congrArg (World.drewN _) (Nat.add_assoc _ _ _))⟩)) | (go_at_call 10; (with_reducible refine (checked_Add.calls (rd l0 x15_4) (rd l0 (ji38)) t144 t145 _ A43.out).mono ?_); rintro e w' ⟨rfl, ⟨nd, rfl⟩⟩; (try first | exact ⟨rfl, _, World.drewN_drewN _ _ _⟩ | exact ⟨rfl, _, Eq.trans (World.drewN_drewN _ _ _) (congrArg (World.drewN _) (Nat.add_assoc _ _ _))⟩)) | (go_at_call 12; (with_reducible refine (checked_Mul.calls k4 (rd l0 (ji38)) (rd l0 x15_4) t146 t147 _ A44.out).mono ?_); rintro e w' ⟨rfl, ⟨nd, rfl⟩⟩; (try first | exact ⟨rfl, _, World.drewN_drewN _ _ _⟩ | exact ⟨rfl, _, Eq.trans (World.drewN_drewN _ _ _) (congrArg (World.drewN _) (Nat.add_assoc _ _ _))⟩)) | (go_at_call 12; (with_reducible refine (checked_Mul.calls k4 (rd l0 x15_4) (rd l0 (ji38)) t148 t149 _ A45.out).mono ?_); rintro e w' ⟨rfl, ⟨nd, rfl⟩⟩; (try first | exact ⟨rfl, _, World.drewN_drewN _ _ _⟩ | exact ⟨rfl, _, Eq.trans (World.drewN_drewN _ _ _) (congrArg (World.drewN _) (Nat.add_assoc _ _ _))⟩))))
                                          go_ret
                                          exact ⟨by first | rfl | (simp [errW_none, errW_some] <;> rfl) | (simp only [← hji38]; first | rfl | (simp [errW_none, errW_some] <;> rfl)) | (simp [*, errW_none, errW_some] <;> rfl), by repeat (first | (with_reducible first | exact HB.out | apply below_alloc | apply pw_below_drewN | apply below_drew1) | exact HB.out)⟩
                                        · rw [if_neg c49] at H
                                          have c49b0 : (t147 != t149) = false := by simpa using c49
                                          (try (have c49b1 : decide (t147 = t149) = true := by simpa using c49))
                                          (try (have c49b2 : (t147 == t149) = true := by simpa using c49))
                                          clear c49
                                          by_cases c50 : t143 = true
                                          · subst c50
                                            have H1 : (if (wrap64 (t142 - (rd l0 (ji38)))) = (rd l0 x15_4) then (if t147 = true then (if (rd l0 (ji38)) = 0 then (gluepotlaw06_CheckedOrder.l1 k4 l0 (wrap64 (x15_4 + 1))) else (if (wrap64 (Int.tdiv t146 (rd l0 (ji38)))) = (rd l0 x15_4) then (gluepotlaw06_CheckedOrder.l1 k4 l0 (wrap64 (x15_4 + 1))) else (some false))) else (gluepotlaw06_CheckedOrder.l1 k4 l0 (wrap64 (x15_4 + 1)))) else (some false)) = some r := by rw [if_pos rfl] at H; exact H
                                            clear H
                                            have H := H1
                                            clear H1
                                            by_cases c51 : (wrap64 (t142 - (rd l0 (ji38)))) = (rd l0 x15_4)
                                            · rw [if_pos c51] at H
                                              have c51b0 : ((wrap64 (t142 - (rd l0 (ji38)))) == (rd l0 x15_4)) = true := beq_iff_eq.mpr c51
                                              have c51b1 : ((wrap64 (t142 - (rd l0 (ji38)))) != (rd l0 x15_4)) = false := bne_eq_false_iff_eq.mpr c51
                                              clear c51
                                              by_cases c52 : t147 = true
                                              · subst c52
                                                have H1 : (if (rd l0 (ji38)) = 0 then (gluepotlaw06_CheckedOrder.l1 k4 l0 (wrap64 (x15_4 + 1))) else (if (wrap64 (Int.tdiv t146 (rd l0 (ji38)))) = (rd l0 x15_4) then (gluepotlaw06_CheckedOrder.l1 k4 l0 (wrap64 (x15_4 + 1))) else (some false))) = some r := by rw [if_pos rfl] at H; exact H
                                                clear H
                                                have H := H1
                                                clear H1
                                                by_cases c53 : (rd l0 (ji38)) = 0
                                                · rw [if_pos c53] at H
                                                  have c53b0 : ((rd l0 (ji38)) == 0) = true := beq_iff_eq.mpr c53
                                                  have c53b1 : ((rd l0 (ji38)) != 0) = false := bne_eq_false_iff_eq.mpr c53
                                                  clear c53
                                                  have H' := Aside0.mk H
                                                  clear H
                                                  have p140 : 0 ≤ ((ji38) : Int) := of_decide_eq_true (by first | (with_reducible assumption) | assumption)
                                                  have q140 : (ji38) < (l0.length : Int) := of_decide_eq_true (by first | (with_reducible assumption) | assumption)
                                                  obtain ⟨ad140, e140, hx140_0⟩ := Kd.at_int HR0.out (ji38) p140 q140
                                                  cases e140
                                                  replace hx140_0 := (HB.out.cell (World.block_lt_of_cell? w _ hx140_0)).trans hx140_0
                                                  replace p140 := eq_true p140
                                                  replace q140 := eq_true q140
                                                  have p141 : 0 ≤ (x15_4 : Int) := of_decide_eq_true (by first | (with_reducible assumption) | assumption)
                                                  have q141 : x15_4 < (l0.length : Int) := of_decide_eq_true (by first | (with_reducible assumption) | assumption)
                                                  obtain ⟨ad141, e141, hx141_0⟩ := Kd.at_int HR0.out x15_4 p141 q141
                                                  obtain rfl : ad140 = ad141 := (by injection e141)
                                                  replace hx141_0 := (HB.out.cell (World.block_lt_of_cell? w _ hx141_0)).trans hx141_0
                                                  replace p141 := eq_true p141
                                                  replace q141 := eq_true q141
                                                  go_wp2_with (first | (go_at_call 10; (with_reducible refine (checked_Add.calls (rd l0 (ji38)) (rd l0 x15_4) t142 true _ A42.out).mono ?_); rintro e w' ⟨rfl, ⟨nd, rfl⟩⟩; (try first | exact ⟨rfl, _, World.drewN_drewN _ _ _⟩ | exact ⟨rfl, _, Eq.trans (World.drewN_drewN _ _ _) (congrArg (World.drewN _) (Nat.add_assoc _ _ _))⟩)) | (go_at_call 10; (with_reducible refine (checked_Add.calls (rd l0 x15_4) (rd l0 (ji38)) t144 t145 _ A43.out).mono ?_); rintro e w' ⟨rfl, ⟨nd, rfl⟩⟩; (try first | exact ⟨rfl, _, World.drewN_drewN _ _ _⟩ | exact ⟨rfl, _, Eq.trans (World.drewN_drewN _ _ _) (congrArg (World.drewN _) (Nat.add_assoc _ _ _))⟩)) | (go_at_call 12; (with_reducible refine (checked_Mul.calls k4 (rd l0 (ji38)) (rd l0 x15_4) t146 true _ A44.out).mono ?_); rintro e w' ⟨rfl, ⟨nd, rfl⟩⟩; (try first | exact ⟨rfl, _, World.drewN_drewN _ _ _⟩ | exact ⟨rfl, _, Eq.trans (World.drewN_drewN _ _ _) (congrArg (World.drewN _) (Nat.add_assoc _ _ _))⟩)) | (go_at_call 12; (with_reducible refine (checked_Mul.calls k4 (rd l0 x15_4) (rd l0 (ji38)) t148 t149 _ A45.out).mono ?_); rintro e w' ⟨rfl, ⟨nd, rfl⟩⟩; (try first | exact ⟨rfl, _, World.drewN_drewN _ _ _⟩ | exact ⟨rfl, _, Eq.trans (World.drewN_drewN _ _ _) (congrArg (World.drewN _) (Nat.add_assoc _ _ _))⟩)))
                                                  repeat (go_quiet (first | (go_at_call 10; (with_reducible refine (checked_Add.calls (rd l0 (ji38)) (rd l0 x15_4) t142 true _ A42.out).mono ?_); rintro e w' ⟨rfl, ⟨nd, rfl⟩⟩; (try first | exact ⟨rfl, _, World.drewN_drewN _ _ _⟩ | exact ⟨rfl, _, Eq.trans (World.drewN_drewN _ _ _) (congrArg (World.drewN _) (Nat.add_assoc _ _ _))⟩)) | (go_at_call 10; (with_reducible refine (checked_Add.calls (rd l0 x15_4) (rd l0 (ji38)) t144 t145 _ A43.out).mono ?_); rintro e w' ⟨rfl, ⟨nd, rfl⟩⟩; (try first | exact ⟨rfl, _, World.drewN_drewN _ _ _⟩ | exact ⟨rfl, _, Eq.trans (World.drewN_drewN _ _ _) (congrArg (World.drewN _) (Nat.add_assoc _ _ _))⟩)) | (go_at_call 12; (with_reducible refine (checked_Mul.calls k4 (rd l0 (ji38)) (rd l0 x15_4) t146 true _ A44.out).mono ?_); rintro e w' ⟨rfl, ⟨nd, rfl⟩⟩; (try first | exact ⟨rfl, _, World.drewN_drewN _ _ _⟩ | exact ⟨rfl, _, Eq.trans (World.drewN_drewN _ _ _) (congrArg (World.drewN _) (Nat.add_assoc _ _ _))⟩)) | (go_at_call 12; (with_reducible refine (checked_Mul.calls k4 (rd l0 x15_4) (rd l0 (ji38)) t148 t149 _ A45.out).mono ?_); rintro e w' ⟨rfl, ⟨nd, rfl⟩⟩; (try first | exact ⟨rfl, _, World.drewN_drewN _ _ _⟩ | exact ⟨rfl, _, Eq.trans (World.drewN_drewN _ _ _) (congrArg (World.drewN _) (Nat.add_assoc _ _ _))⟩))); try go_wp2_with (first | (go_at_call 10; (with_reducible refine (checked_Add.calls (rd l0 (ji38)) (rd l0 x15_4) t142 true _ A42.out).mono ?_); rintro e w' ⟨rfl, ⟨nd, rfl⟩⟩; (try first | exact ⟨rfl, _, World.drewN_drewN _ _ _⟩ | exact ⟨rfl, _, Eq.trans (World.drewN_drewN _ _ _) (congrArg (World.drewN _) (Nat.add_assoc _ _ _))⟩)) | (go_at_call 10; (with_reducible refine (checked_Add.calls (rd l0 x15_4) (rd l0 (ji38)) t144 t145 _ A43.out).mono ?_); rintro e w' ⟨rfl, ⟨nd, rfl⟩⟩; (try first | exact ⟨rfl, _, World.drewN_drewN _ _ _⟩ | exact ⟨rfl, _, Eq.trans (World.drewN_drewN _ _ _) (congrArg (World.drewN _) (Nat.add_assoc _ _ _))⟩)) | (go_at_call 12; (with_reducible refine (checked_Mul.calls k4 (rd l0 (ji38)) (rd l0 x15_4) t146 true _ A44.out).mono ?_); rintro e w' ⟨rfl, ⟨nd, rfl⟩⟩; (try first | exact ⟨rfl, _, World.drewN_drewN _ _ _⟩ | exact ⟨rfl, _, Eq.trans (World.drewN_drewN _ _ _) (congrArg (World.drewN _) (Nat.add_assoc _ _ _))⟩)) | (go_at_call 12; (with_reducible refine (checked_Mul.calls k4 (rd l0 x15_4) (rd l0 (ji38)) t148 t149 _ A45.out).mono ?_); rintro e w' ⟨rfl, ⟨nd, rfl⟩⟩; (try first | exact ⟨rfl, _, World.drewN_drewN _ _ _⟩ | exact ⟨rfl, _, Eq.trans (World.drewN_drewN _ _ _) (congrArg (World.drewN _) (Nat.add_assoc _ _ _))⟩))))
                                                  go_roundg k4
                                                  case measure => have := HJ4.out; have := HJ8.out; have := HJ32.out; have := HK4.out; omega
                                                  case rel => exact ⟨(wrap64 (x15_4 + 1)), (by first | rfl | (simp; done) | (simp [*]; done)), H', ⟨by have := HJ4.out; have := HJ8.out; have := HJ32.out; have := HK4.out; omega⟩, ⟨by repeat (first | (with_reducible first | exact HB.out | apply below_alloc | apply pw_below_drewN | apply below_drew1) | exact HB.out)⟩⟩
                                                · rw [if_neg c53] at H
                                                  have c53b0 : ((rd l0 (ji38)) == 0) = false := beq_eq_false_iff_ne.mpr c53
                                                  have c53b1 : ((rd l0 (ji38)) != 0) = true := bne_iff_ne.mpr c53
                                                  by_cases c54 : (wrap64 (Int.tdiv t146 (rd l0 (ji38)))) = (rd l0 x15_4)
                                                  · rw [if_pos c54] at H
                                                    have c54b0 : ((wrap64 (Int.tdiv t146 (rd l0 (ji38)))) == (rd l0 x15_4)) = true := beq_iff_eq.mpr c54
                                                    have c54b1 : ((wrap64 (Int.tdiv t146 (rd l0 (ji38)))) != (rd l0 x15_4)) = false := bne_eq_false_iff_eq.mpr c54
                                                    clear c54
                                                    have H' := Aside0.mk H
                                                    clear H
                                                    have p140 : 0 ≤ ((ji38) : Int) := of_decide_eq_true (by first | (with_reducible assumption) | assumption)
                                                    have q140 : (ji38) < (l0.length : Int) := of_decide_eq_true (by first | (with_reducible assumption) | assumption)
                                                    obtain ⟨ad140, e140, hx140_0⟩ := Kd.at_int HR0.out (ji38) p140 q140
                                                    cases e140
                                                    replace hx140_0 := (HB.out.cell (World.block_lt_of_cell? w _ hx140_0)).trans hx140_0
                                                    replace p140 := eq_true p140
                                                    replace q140 := eq_true q140
                                                    have p141 : 0 ≤ (x15_4 : Int) := of_decide_eq_true (by first | (with_reducible assumption) | assumption)
                                                    have q141 : x15_4 < (l0.length : Int) := of_decide_eq_true (by first | (with_reducible assumption) | assumption)
                                                    obtain ⟨ad141, e141, hx141_0⟩ := Kd.at_int HR0.out x15_4 p141 q141
                                                    obtain rfl : ad140 = ad141 := (by injection e141)
                                                    replace hx141_0 := (HB.out.cell (World.block_lt_of_cell? w _ hx141_0)).trans hx141_0
                                                    replace p141 := eq_true p141
                                                    replace q141 := eq_true q141
                                                    go_wp2_with (first | (go_at_call 10; (with_reducible refine (checked_Add.calls (rd l0 (ji38)) (rd l0 x15_4) t142 true _ A42.out).mono ?_); rintro e w' ⟨rfl, ⟨nd, rfl⟩⟩; (try first | exact ⟨rfl, _, World.drewN_drewN _ _ _⟩ | exact ⟨rfl, _, Eq.trans (World.drewN_drewN _ _ _) (congrArg (World.drewN _) (Nat.add_assoc _ _ _))⟩)) | (go_at_call 10; (with_reducible refine (checked_Add.calls (rd l0 x15_4) (rd l0 (ji38)) t144 t145 _ A43.out).mono ?_); rintro e w' ⟨rfl, ⟨nd, rfl⟩⟩; (try first | exact ⟨rfl, _, World.drewN_drewN _ _ _⟩ | exact ⟨rfl, _, Eq.trans (World.drewN_drewN _ _ _) (congrArg (World.drewN _) (Nat.add_assoc _ _ _))⟩)) | (go_at_call 12; (with_reducible refine (checked_Mul.calls k4 (rd l0 (ji38)) (rd l0 x15_4) t146 true _ A44.out).mono ?_); rintro e w' ⟨rfl, ⟨nd, rfl⟩⟩; (try first | exact ⟨rfl, _, World.drewN_drewN _ _ _⟩ | exact ⟨rfl, _, Eq.trans (World.drewN_drewN _ _ _) (congrArg (World.drewN _) (Nat.add_assoc _ _ _))⟩)) | (go_at_call 12; (with_reducible refine (checked_Mul.calls k4 (rd l0 x15_4) (rd l0 (ji38)) t148 t149 _ A45.out).mono ?_); rintro e w' ⟨rfl, ⟨nd, rfl⟩⟩; (try first | exact ⟨rfl, _, World.drewN_drewN _ _ _⟩ | exact ⟨rfl, _, Eq.trans (World.drewN_drewN _ _ _) (congrArg (World.drewN _) (Nat.add_assoc _ _ _))⟩)))
                                                    repeat (go_quiet (first | (go_at_call 10; (with_reducible refine (checked_Add.calls (rd l0 (ji38)) (rd l0 x15_4) t142 true _ A42.out).mono ?_); rintro e w' ⟨rfl, ⟨nd, rfl⟩⟩; (try first | exact ⟨rfl, _, World.drewN_drewN _ _ _⟩ | exact ⟨rfl, _, Eq.trans (World.drewN_drewN _ _ _) (congrArg (World.drewN _) (Nat.add_assoc _ _ _))⟩)) | (go_at_call 10; (with_reducible refine (checked_Add.calls (rd l0 x15_4) (rd l0 (ji38)) t144 t145 _ A43.out).mono ?_); rintro e w' ⟨rfl, ⟨nd, rfl⟩⟩; (try first | exact ⟨rfl, _, World.drewN_drewN _ _ _⟩ | exact ⟨rfl, _, Eq.trans (World.drewN_drewN _ _ _) (congrArg (World.drewN _) (Nat.add_assoc _ _ _))⟩)) | (go_at_call 12; (with_reducible refine (checked_Mul.calls k4 (rd l0 (ji38)) (rd l0 x15_4) t146 true _ A44.out).mono ?_); rintro e w' ⟨rfl, ⟨nd, rfl⟩⟩; (try first | exact ⟨rfl, _, World.drewN_drewN _ _ _⟩ | exact ⟨rfl, _, Eq.trans (World.drewN_drewN _ _ _) (congrArg (World.drewN _) (Nat.add_assoc _ _ _))⟩)) | (go_at_call 12; (with_reducible refine (checked_Mul.calls k4 (rd l0 x15_4) (rd l0 (ji38)) t148 t149 _ A45.out).mono ?_); rintro e w' ⟨rfl, ⟨nd, rfl⟩⟩; (try first | exact ⟨rfl, _, World.drewN_drewN _ _ _⟩ | exact ⟨rfl, _, Eq.trans (World.drewN_drewN _ _ _) (congrArg (World.drewN _) (Nat.add_assoc _ _ _))⟩))); try go_wp2_with (first | (go_at_call 10; (with_reducible refine (checked_Add.calls (rd l0 (ji38)) (rd l0 x15_4) t142 true _ A42.out).mono ?_); rintro e w' ⟨rfl, ⟨nd, rfl⟩⟩; (try first | exact ⟨rfl, _, World.drewN_drewN _ _ _⟩ | exact ⟨rfl, _, Eq.trans (World.drewN_drewN _ _ _) (congrArg (World.drewN _) (Nat.add_assoc _ _ _))⟩)) | (go_at_call 10; (with_reducible refine (checked_Add.calls (rd l0 x15_4) (rd l0 (ji38)) t144 t145 _ A43.out).mono ?_); rintro e w' ⟨rfl, ⟨nd, rfl⟩⟩; (try first | exact ⟨rfl, _, World.drewN_drewN _ _ _⟩ | exact ⟨rfl, _, Eq.trans (World.drewN_drewN _ _ _) (congrArg (World.drewN _) (Nat.add_assoc _ _ _))⟩)) | (go_at_call 12; (with_reducible refine (checked_Mul.calls k4 (rd l0 (ji38)) (rd l0 x15_4) t146 true _ A44.out).mono ?_); rintro e w' ⟨rfl, ⟨nd, rfl⟩⟩; (try first | exact ⟨rfl, _, World.drewN_drewN _ _ _⟩ | exact ⟨rfl, _, Eq.trans (World.drewN_drewN _ _ _) (congrArg (World.drewN _) (Nat.add_assoc _ _ _))⟩)) | (go_at_call 12; (with_reducible refine (checked_Mul.calls k4 (rd l0 x15_4) (rd l0 (ji38)) t148 t149 _ A45.out).mono ?_); rintro e w' ⟨rfl, ⟨nd, rfl⟩⟩; (try first | exact ⟨rfl, _, World.drewN_drewN _ _ _⟩ | exact ⟨rfl, _, Eq.trans (World.drewN_drewN _ _ _) (congrArg (World.drewN _) (Nat.add_assoc _ _ _))⟩))))
                                                    go_roundg k4
                                                    case measure => have := HJ4.out; have := HJ8.out; have := HJ32.out; have := HK4.out; omega
                                                    case rel => exact ⟨(wrap64 (x15_4 + 1)), (by first | rfl | (simp; done) | (simp [*]; done)), H', ⟨by have := HJ4.out; have := HJ8.out; have := HJ32.out; have := HK4.out; omega⟩, ⟨by repeat (first | (with_reducible first | exact HB.out | apply below_alloc | apply pw_below_drewN | apply below_drew1) | exact HB.out)⟩⟩
                                                  · rw [if_neg c54] at H
                                                    have c54b0 : ((wrap64 (Int.tdiv t146 (rd l0 (ji38)))) == (rd l0 x15_4)) = false := beq_eq_false_iff_ne.mpr c54
                                                    have c54b1 : ((wrap64 (Int.tdiv t146 (rd l0 (ji38)))) != (rd l0 x15_4)) = true := bne_iff_ne.mpr c54
                                                    obtain rfl := Option.some.inj H
                                                    have p140 : 0 ≤ ((ji38) : Int) := of_decide_eq_true (by first | (with_reducible assumption) | assumption)
                                                    have q140 : (ji38) < (l0.length : Int) := of_decide_eq_true (by first | (with_reducible assumption) | assumption)
                                                    obtain ⟨ad140, e140, hx140_0⟩ := Kd.at_int HR0.out (ji38) p140 q140
                                                    cases e140
                                                    replace hx140_0 := (HB.out.cell (World.block_lt_of_cell? w _ hx140_0)).trans hx140_0
                                                    replace p140 := eq_true p140
                                                    replace q140 := eq_true q140
                                                    have p141 : 0 ≤ (x15_4 : Int) := of_decide_eq_true (by first | (with_reducible assumption) | assumption)
                                                    have q141 : x15_4 < (l0.length : Int) := of_decide_eq_true (by first | (with_reducible assumption) | assumption)
                                                    obtain ⟨ad141, e141, hx141_0⟩ := Kd.at_int HR0.out x15_4 p141 q141
                                                    obtain rfl : ad140 = ad141 := (by injection e141)
                                                    replace hx141_0 := (HB.out.cell (World.block_lt_of_cell? w _ hx141_0)).trans hx141_0
                                                    replace p141 := eq_true p141
                                                    replace q141 := eq_true q141
                                                    go_wp2_with (first | (go_at_call 10; (with_reducible refine (checked_Add.calls (rd l0 (ji38)) (rd l0 x15_4) t142 true _ A42.out).mono ?_); rintro e w' ⟨rfl, ⟨nd, rfl⟩⟩; (try first | exact ⟨rfl, _, World.drewN_drewN _ _ _⟩ | exact ⟨rfl, _, Eq.trans (World.drewN_drewN _ _ _) (congrArg (World.drewN _) (Nat.add_assoc _ _ _))⟩)) | (go_at_call 10; (with_reducible refine (checked_Add.calls (rd l0 x15_4) (rd l0 (ji38)) t144 t145 _ A43.out).mono ?_); rintro e w' ⟨rfl, ⟨nd, rfl⟩⟩; (try first | exact ⟨rfl, _, World.drewN_drewN _ _ _⟩ | exact ⟨rfl, _, Eq.trans (World.drewN_drewN _ _ _) (congrArg (World.drewN _) (Nat.add_assoc _ _ _))⟩)) | (go_at_call 12; (with_reducible refine (checked_Mul.calls k4 (rd l0 (ji38)) (rd l0 x15_4) t146 true _ A44.out).mono ?_); rintro e w' ⟨rfl, ⟨nd, rfl⟩⟩; (try first | exact ⟨rfl, _, World.drewN_drewN _ _ _⟩ | exact ⟨rfl, _, Eq.trans (World.drewN_drewN _ _ _) (congrArg (World.drewN _) (Nat.add_assoc _ _ _))⟩)) | (go_at_call 12; (with_reducible refine (checked_Mul.calls k4 (rd l0 x15_4) (rd l0 (ji38)) t148 t149 _ A45.out).mono ?_); rintro e w' ⟨rfl, ⟨nd, rfl⟩⟩; (try first | exact ⟨rfl, _, World.drewN_drewN _ _ _⟩ | exact ⟨rfl, _, Eq.trans (World.drewN_drewN _ _ _) (congrArg (World.drewN _) (Nat.add_assoc _ _ _))⟩)))
                                                    repeat (go_quiet (first | (go_at_call 10; (with_reducible refine (checked_Add.calls (rd l0 (ji38)) (rd l0 x15_4) t142 true _ A42.out).mono ?_); rintro e w' ⟨rfl, ⟨nd, rfl⟩⟩; (try first | exact ⟨rfl, _, World.drewN_drewN _ _ _⟩ | exact ⟨rfl, _, Eq.trans (World.drewN_drewN _ _ _) (congrArg (World.drewN _) (Nat.add_assoc _ _ _))⟩)) | (go_at_call 10; (with_reducible refine (checked_Add.calls (rd l0 x15_4) (rd l0 (ji38)) t144 t145 _ A43.out).mono ?_); rintro e w' ⟨rfl, ⟨nd, rfl⟩⟩; (try first | exact ⟨rfl, _, World.drewN_drewN _ _ _⟩ | exact ⟨rfl, _, Eq.trans (World.drewN_drewN _ _ _) (congrArg (World.drewN _) (Nat.add_assoc _ _ _))⟩)) | (go_at_call 12; (with_reducible refine (checked_Mul.calls k4 (rd l0 (ji38)) (rd l0 x15_4) t146 true _ A44.out).mono ?_); rintro e w' ⟨rfl, ⟨nd, rfl⟩⟩; (try first | exact ⟨rfl, _, World.drewN_drewN _ _ _⟩ | exact ⟨rfl, _, Eq.trans (World.drewN_drewN _ _ _) (congrArg (World.drewN _) (Nat.add_assoc _ _ _))⟩)) | (go_at_call 12; (with_reducible refine (checked_Mul.calls k4 (rd l0 x15_4) (rd l0 (ji38)) t148 t149 _ A45.out).mono ?_); rintro e w' ⟨rfl, ⟨nd, rfl⟩⟩; (try first | exact ⟨rfl, _, World.drewN_drewN _ _ _⟩ | exact ⟨rfl, _, Eq.trans (World.drewN_drewN _ _ _) (congrArg (World.drewN _) (Nat.add_assoc _ _ _))⟩))); try go_wp2_with (first | (go_at_call 10; (with_reducible refine (checked_Add.calls (rd l0 (ji38)) (rd l0 x15_4) t142 true _ A42.out).mono ?_); rintro e w' ⟨rfl, ⟨nd, rfl⟩⟩; (try first | exact ⟨rfl, _, World.drewN_drewN _ _ _⟩ | exact ⟨rfl, _, Eq.trans (World.drewN_drewN _ _ _) (congrArg (World.drewN _) (Nat.add_assoc _ _ _))⟩)) | (go_at_call 10; (with_reducible refine (checked_Add.calls (rd l0 x15_4) (rd l0 (ji38)) t144 t145 _ A43.out).mono ?_); rintro e w' ⟨rfl, ⟨nd, rfl⟩⟩; (try first | exact ⟨rfl, _, World.drewN_drewN _ _ _⟩ | exact ⟨rfl, _, Eq.trans (World.drewN_drewN _ _ _) (congrArg (World.drewN _) (Nat.add_assoc _ _ _))⟩)) | (go_at_call 12; (with_reducible refine (checked_Mul.calls k4 (rd l0 (ji38)) (rd l0 x15_4) t146 true _ A44.out).mono ?_); rintro e w' ⟨rfl, ⟨nd, rfl⟩⟩; (try first | exact ⟨rfl, _, World.drewN_drewN _ _ _⟩ | exact ⟨rfl, _, Eq.trans (World.drewN_drewN _ _ _) (congrArg (World.drewN _) (Nat.add_assoc _ _ _))⟩)) | (go_at_call 12; (with_reducible refine (checked_Mul.calls k4 (rd l0 x15_4) (rd l0 (ji38)) t148 t149 _ A45.out).mono ?_); rintro e w' ⟨rfl, ⟨nd, rfl⟩⟩; (try first | exact ⟨rfl, _, World.drewN_drewN _ _ _⟩ | exact ⟨rfl, _, Eq.trans (World.drewN_drewN _ _ _) (congrArg (World.drewN _) (Nat.add_assoc _ _ _))⟩))))
                                                    go_ret
                                                    exact ⟨by first | rfl | (simp [errW_none, errW_some] <;> rfl) | (simp only [← hji38]; first | rfl | (simp [errW_none, errW_some] <;> rfl)) | (simp [*, errW_none, errW_some] <;> rfl), by repeat (first | (with_reducible first | exact HB.out | apply below_alloc | apply pw_below_drewN | apply below_drew1) | exact HB.out)⟩
                                              · replace c52 := Bool.eq_false_iff.mpr c52
                                                subst c52
                                                have H1 : (gluepotlaw06_CheckedOrder.l1 k4 l0 (wrap64 (x15_4 + 1))) = some r := by rw [if_neg (show ¬ (false = true) by decide)] at H; exact H
                                                clear H
                                                have H := H1
                                                clear H1
                                                have H' := Aside0.mk H
                                                clear H
                                                have p140 : 0 ≤ ((ji38) : Int) := of_decide_eq_true (by first | (with_reducible assumption) | assumption)
                                                have q140 : (ji38) < (l0.length : Int) := of_decide_eq_true (by first | (with_reducible assumption) | assumption)
                                                obtain ⟨ad140, e140, hx140_0⟩ := Kd.at_int HR0.out (ji38) p140 q140
                                                cases e140
                                                replace hx140_0 := (HB.out.cell (World.block_lt_of_cell? w _ hx140_0)).trans hx140_0
                                                replace p140 := eq_true p140
                                                replace q140 := eq_true q140
                                                have p141 : 0 ≤ (x15_4 : Int) := of_decide_eq_true (by first | (with_reducible assumption) | assumption)
                                                have q141 : x15_4 < (l0.length : Int) := of_decide_eq_true (by first | (with_reducible assumption) | assumption)
                                                obtain ⟨ad141, e141, hx141_0⟩ := Kd.at_int HR0.out x15_4 p141 q141
                                                obtain rfl : ad140 = ad141 := (by injection e141)
                                                replace hx141_0 := (HB.out.cell (World.block_lt_of_cell? w _ hx141_0)).trans hx141_0
                                                replace p141 := eq_true p141
                                                replace q141 := eq_true q141
                                                go_wp2_with (first | (go_at_call 10; (with_reducible refine (checked_Add.calls (rd l0 (ji38)) (rd l0 x15_4) t142 true _ A42.out).mono ?_); rintro e w' ⟨rfl, ⟨nd, rfl⟩⟩; (try first | exact ⟨rfl, _, World.drewN_drewN _ _ _⟩ | exact ⟨rfl, _, Eq.trans (World.drewN_drewN _ _ _) (congrArg (World.drewN _) (Nat.add_assoc _ _ _))⟩)) | (go_at_call 10; (with_reducible refine (checked_Add.calls (rd l0 x15_4) (rd l0 (ji38)) t144 t145 _ A43.out).mono ?_); rintro e w' ⟨rfl, ⟨nd, rfl⟩⟩; (try first | exact ⟨rfl, _, World.drewN_drewN _ _ _⟩ | exact ⟨rfl, _, Eq.trans (World.drewN_drewN _ _ _) (congrArg (World.drewN _) (Nat.add_assoc _ _ _))⟩)) | (go_at_call 12; (with_reducible refine (checked_Mul.calls k4 (rd l0 (ji38)) (rd l0 x15_4) t146 false _ A44.out).mono ?_); rintro e w' ⟨rfl, ⟨nd, rfl⟩⟩; (try first | exact ⟨rfl, _, World.drewN_drewN _ _ _⟩ | exact ⟨rfl, _, Eq.trans (World.drewN_drewN _ _ _) (congrArg (World.drewN _) (Nat.add_assoc _ _ _))⟩)) | (go_at_call 12; (with_reducible refine (checked_Mul.calls k4 (rd l0 x15_4) (rd l0 (ji38)) t148 t149 _ A45.out).mono ?_); rintro e w' ⟨rfl, ⟨nd, rfl⟩⟩; (try first | exact ⟨rfl, _, World.drewN_drewN _ _ _⟩ | exact ⟨rfl, _, Eq.trans (World.drewN_drewN _ _ _) (congrArg (World.drewN _) (Nat.add_assoc _ _ _))⟩)))
                                                repeat (go_quiet (first | (go_at_call 10; (with_reducible refine (checked_Add.calls (rd l0 (ji38)) (rd l0 x15_4) t142 true _ A42.out).mono ?_); rintro e w' ⟨rfl, ⟨nd, rfl⟩⟩; (try first | exact ⟨rfl, _, World.drewN_drewN _ _ _⟩ | exact ⟨rfl, _, Eq.trans (World.drewN_drewN _ _ _) (congrArg (World.drewN _) (Nat.add_assoc _ _ _))⟩)) | (go_at_call 10; (with_reducible refine (checked_Add.calls (rd l0 x15_4) (rd l0 (ji38)) t144 t145 _ A43.out).mono ?_); rintro e w' ⟨rfl, ⟨nd, rfl⟩⟩; (try first | exact ⟨rfl, _, World.drewN_drewN _ _ _⟩ | exact ⟨rfl, _, Eq.trans (World.drewN_drewN _ _ _) (congrArg (World.drewN _) (Nat.add_assoc _ _ _))⟩)) | (go_at_call 12; (with_reducible refine (checked_Mul.calls k4 (rd l0 (ji38)) (rd l0 x15_4) t146 false _ A44.out).mono ?_); rintro e w' ⟨rfl, ⟨nd, rfl⟩⟩; (try first | exact ⟨rfl, _, World.drewN_drewN _ _ _⟩ | exact ⟨rfl, _, Eq.trans (World.drewN_drewN _ _ _) (congrArg (World.drewN _) (Nat.add_assoc _ _ _))⟩)) | (go_at_call 12; (with_reducible refine (checked_Mul.calls k4 (rd l0 x15_4) (rd l0 (ji38)) t148 t149 _ A45.out).mono ?_); rintro e w' ⟨rfl, ⟨nd, rfl⟩⟩; (try first | exact ⟨rfl, _, World.drewN_drewN _ _ _⟩ | exact ⟨rfl, _, Eq.trans (World.drewN_drewN _ _ _) (congrArg (World.drewN _) (Nat.add_assoc _ _ _))⟩))); try go_wp2_with (first | (go_at_call 10; (with_reducible refine (checked_Add.calls (rd l0 (ji38)) (rd l0 x15_4) t142 true _ A42.out).mono ?_); rintro e w' ⟨rfl, ⟨nd, rfl⟩⟩; (try first | exact ⟨rfl, _, World.drewN_drewN _ _ _⟩ | exact ⟨rfl, _, Eq.trans (World.drewN_drewN _ _ _) (congrArg (World.drewN _) (Nat.add_assoc _ _ _))⟩)) | (go_at_call 10; (with_reducible refine (checked_Add.calls (rd l0 x15_4) (rd l0 (ji38)) t144 t145 _ A43.out).mono ?_); rintro e w' ⟨rfl, ⟨nd, rfl⟩⟩; (try first | exact ⟨rfl, _, World.drewN_drewN _ _ _⟩ | exact ⟨rfl, _, Eq.trans (World.drewN_drewN _ _ _) (congrArg (World.drewN _) (Nat.add_assoc _ _ _))⟩)) | (go_at_call 12; (with_reducible refine (checked_Mul.calls k4 (rd l0 (ji38)) (rd l0 x15_4) t146 false _ A44.out).mono ?_); rintro e w' ⟨rfl, ⟨nd, rfl⟩⟩; (try first | exact ⟨rfl, _, World.drewN_drewN _ _ _⟩ | exact ⟨rfl, _, Eq.trans (World.drewN_drewN _ _ _) (congrArg (World.drewN _) (Nat.add_assoc _ _ _))⟩)) | (go_at_call 12; (with_reducible refine (checked_Mul.calls k4 (rd l0 x15_4) (rd l0 (ji38)) t148 t149 _ A45.out).mono ?_); rintro e w' ⟨rfl, ⟨nd, rfl⟩⟩; (try first | exact ⟨rfl, _, World.drewN_drewN _ _ _⟩ | exact ⟨rfl, _, Eq.trans (World.drewN_drewN _ _ _) (congrArg (World.drewN _) (Nat.add_assoc _ _ _))⟩))))
                                                go_roundg k4
                                                case measure => have := HJ4.out; have := HJ8.out; have := HJ32.out; have := HK4.out; omega
                                                case rel => exact ⟨(wrap64 (x15_4 + 1)), (by first | rfl | (simp; done) | (simp [*]; done)), H', ⟨by have := HJ4.out; have := HJ8.out; have := HJ32.out; have := HK4.out; omega⟩, ⟨by repeat (first | (with_reducible first | exact HB.out | apply below_alloc | apply pw_below_drewN | apply below_drew1) | exact HB.out)⟩⟩
                                            · rw [if_neg c51] at H
                                              have c51b0 : ((wrap64 (t142 - (rd l0 (ji38)))) == (rd l0 x15_4)) = false := beq_eq_false_iff_ne.mpr c51
                                              have c51b1 : ((wrap64 (t142 - (rd l0 (ji38)))) != (rd l0 x15_4)) = true := bne_iff_ne.mpr c51
                                              obtain rfl := Option.some.inj H
                                              have p140 : 0 ≤ ((ji38) : Int) := of_decide_eq_true (by first | (with_reducible assumption) | assumption)
                                              have q140 : (ji38) < (l0.length : Int) := of_decide_eq_true (by first | (with_reducible assumption) | assumption)
                                              obtain ⟨ad140, e140, hx140_0⟩ := Kd.at_int HR0.out (ji38) p140 q140
                                              cases e140
                                              replace hx140_0 := (HB.out.cell (World.block_lt_of_cell? w _ hx140_0)).trans hx140_0
                                              replace p140 := eq_true p140
                                              replace q140 := eq_true q140
                                              have p141 : 0 ≤ (x15_4 : Int) := of_decide_eq_true (by first | (with_reducible assumption) | assumption)
                                              have q141 : x15_4 < (l0.length : Int) := of_decide_eq_true (by first | (with_reducible assumption) | assumption)
                                              obtain ⟨ad141, e141, hx141_0⟩ := Kd.at_int HR0.out x15_4 p141 q141
                                              obtain rfl : ad140 = ad141 := (by injection e141)
                                              replace hx141_0 := (HB.out.cell (World.block_lt_of_cell? w _ hx141_0)).trans hx141_0
                                              replace p141 := eq_true p141
                                              replace q141 := eq_true q141
                                              go_wp2_with (first | (go_at_call 10; (with_reducible refine (checked_Add.calls (rd l0 (ji38)) (rd l0 x15_4) t142 true _ A42.out).mono ?_); rintro e w' ⟨rfl, ⟨nd, rfl⟩⟩; (try first | exact ⟨rfl, _, World.drewN_drewN _ _ _⟩ | exact ⟨rfl, _, Eq.trans (World.drewN_drewN _ _ _) (congrArg (World.drewN _) (Nat.add_assoc _ _ _))⟩)) | (go_at_call 10; (with_reducible refine (checked_Add.calls (rd l0 x15_4) (rd l0 (ji38)) t144 t145 _ A43.out).mono ?_); rintro e w' ⟨rfl, ⟨nd, rfl⟩⟩; (try first | exact ⟨rfl, _, World.drewN_drewN _ _ _⟩ | exact ⟨rfl, _, Eq.trans (World.drewN_drewN _ _ _) (congrArg (World.drewN _) (Nat.add_assoc _ _ _))⟩)) | (go_at_call 12; (with_reducible refine (checked_Mul.calls k4 (rd l0 (ji38)) (rd l0 x15_4) t146 t147 _ A44.out).mono ?_); rintro e w' ⟨rfl, ⟨nd, rfl⟩⟩; (try first | exact ⟨rfl, _, World.drewN_drewN _ _ _⟩ | exact ⟨rfl, _, Eq.trans (World.drewN_drewN _ _ _) (congrArg (World.drewN _) (Nat.add_assoc _ _ _))⟩)) | (go_at_call 12; (with_reducible refine (checked_Mul.calls k4 (rd l0 x15_4) (rd l0 (ji38)) t148 t149 _ A45.out).mono ?_); rintro e w' ⟨rfl, ⟨nd, rfl⟩⟩; (try first | exact ⟨rfl, _, World.drewN_drewN _ _ _⟩ | exact ⟨rfl, _, Eq.trans (World.drewN_drewN _ _ _) (congrArg (World.drewN _) (Nat.add_assoc _ _ _))⟩)))
                                              repeat (go_quiet (first | (go_at_call 10; (with_reducible refine (checked_Add.calls (rd l0 (ji38)) (rd l0 x15_4) t142 true _ A42.out).mono ?_); rintro e w' ⟨rfl, ⟨nd, rfl⟩⟩; (try first | exact ⟨rfl, _, World.drewN_drewN _ _ _⟩ | exact ⟨rfl, _, Eq.trans (World.drewN_drewN _ _ _) (congrArg (World.drewN _) (Nat.add_assoc _ _ _))⟩)) | (go_at_call 10; (with_reducible refine (checked_Add.calls (rd l0 x15_4) (rd l0 (ji38)) t144 t145 _ A43.out).mono ?_); rintro e w' ⟨rfl, ⟨nd, rfl⟩⟩; (try first | exact ⟨rfl, _, World.drewN_drewN _ _ _⟩ | exact ⟨rfl, _, Eq.trans (World.drewN_drewN _ _ _) (congrArg (World.drewN _) (Nat.add_assoc _ _ _))⟩)) | (go_at_call 12; (with_reducible refine (checked_Mul.calls k4 (rd l0 (ji38)) (rd l0 x15_4) t146 t147 _ A44.out).mono ?_); rintro e w' ⟨rfl, ⟨nd, rfl⟩⟩; (try first | exact ⟨rfl, _, World.drewN_drewN _ _ _⟩ | exact ⟨rfl, _, Eq.trans (World.drewN_drewN _ _ _) (congrArg (World.drewN _) (Nat.add_assoc _ _ _))⟩)) | (go_at_call 12; (with_reducible refine (checked_Mul.calls k4 (rd l0 x15_4) (rd l0 (ji38)) t148 t149 _ A45.out).mono ?_); rintro e w' ⟨rfl, ⟨nd, rfl⟩⟩; (try first | exact ⟨rfl, _, World.drewN_drewN _ _ _⟩ | exact ⟨rfl, _, Eq.trans (World.drewN_drewN _ _ _) (congrArg (World.drewN _) (Nat.add_assoc _ _ _))⟩))); try go_wp2_with (first | (go_at_call 10; (with_reducible refine (checked_Add.calls (rd l0 (ji38)) (rd l0 x15_4) t142 true _ A42.out).mono ?_); rintro e w' ⟨rfl, ⟨nd, rfl⟩⟩; (try first | exact ⟨rfl, _, World.drewN_drewN _ _ _⟩ | exact ⟨rfl, _, Eq.trans (World.drewN_drewN _ _ _) (congrArg (World.drewN _) (Nat.add_assoc _ _ _))⟩)) | (go_at_call 10; (with_reducible refine (checked_Add.calls (rd l0 x15_4) (rd l0 (ji38)) t144 t145 _ A43.out).mono ?_); rintro e w' ⟨rfl, ⟨nd, rfl⟩⟩; (try first | exact ⟨rfl, _, World.drewN_drewN _ _ _⟩ | exact ⟨rfl, _, Eq.trans (World.drewN_drewN _ _ _) (congrArg (World.drewN _) (Nat.add_assoc _ _ _))⟩)) | (go_at_call 12; (with_reducible refine (checked_Mul.calls k4 (rd l0 (ji38)) (rd l0 x15_4) t146 t147 _ A44.out).mono ?_); rintro e w' ⟨rfl, ⟨nd, rfl⟩⟩; (try first | exact ⟨rfl, _, World.drewN_drewN _ _ _⟩ | exact ⟨rfl, _, Eq.trans (World.drewN_drewN _ _ _) (congrArg (World.drewN _) (Nat.add_assoc _ _ _))⟩)) | (go_at_call 12; (with_reducible refine (checked_Mul.calls k4 (rd l0 x15_4) (rd l0 (ji38)) t148 t149 _ A45.out).mono ?_); rintro e w' ⟨rfl, ⟨nd, rfl⟩⟩; (try first | exact ⟨rfl, _, World.drewN_drewN _ _ _⟩ | exact ⟨rfl, _, Eq.trans (World.drewN_drewN _ _ _) (congrArg (World.drewN _) (Nat.add_assoc _ _ _))⟩))))
                                              go_ret
                                              exact ⟨by first | rfl | (simp [errW_none, errW_some] <;> rfl) | (simp only [← hji38]; first | rfl | (simp [errW_none, errW_some] <;> rfl)) | (simp [*, errW_none, errW_some] <;> rfl), by repeat (first | (with_reducible first | exact HB.out | apply below_alloc | apply pw_below_drewN | apply below_drew1) | exact HB.out)⟩
                                          · replace c50 := Bool.eq_false_iff.mpr c50
                                            subst c50
                                            have H1 : (if t147 = true then (if (rd l0 (ji38)) = 0 then (gluepotlaw06_CheckedOrder.l1 k4 l0 (wrap64 (x15_4 + 1))) else (if (wrap64 (Int.tdiv t146 (rd l0 (ji38)))) = (rd l0 x15_4) then (gluepotlaw06_CheckedOrder.l1 k4 l0 (wrap64 (x15_4 + 1))) else (some false))) else (gluepotlaw06_CheckedOrder.l1 k4 l0 (wrap64 (x15_4 + 1)))) = some r := by rw [if_neg (show ¬ (false = true) by decide)] at H; exact H
                                            clear H
                                            have H := H1
                                            clear H1
                                            by_cases c55 : t147 = true
                                            · subst c55
                                              have H1 : (if (rd l0 (ji38)) = 0 then (gluepotlaw06_CheckedOrder.l1 k4 l0 (wrap64 (x15_4 + 1))) else (if (wrap64 (Int.tdiv t146 (rd l0 (ji38)))) = (rd l0 x15_4) then (gluepotlaw06_CheckedOrder.l1 k4 l0 (wrap64 (x15_4 + 1))) else (some false))) = some r := by rw [if_pos rfl] at H; exact H
                                              clear H
                                              have H := H1
                                              clear H1
                                              by_cases c56 : (rd l0 (ji38)) = 0
                                              · rw [if_pos c56] at H
                                                have c56b0 : ((rd l0 (ji38)) == 0) = true := beq_iff_eq.mpr c56
                                                have c56b1 : ((rd l0 (ji38)) != 0) = false := bne_eq_false_iff_eq.mpr c56
                                                clear c56
                                                have H' := Aside0.mk H
                                                clear H
                                                have p140 : 0 ≤ ((ji38) : Int) := of_decide_eq_true (by first | (with_reducible assumption) | assumption)
                                                have q140 : (ji38) < (l0.length : Int) := of_decide_eq_true (by first | (with_reducible assumption) | assumption)
                                                obtain ⟨ad140, e140, hx140_0⟩ := Kd.at_int HR0.out (ji38) p140 q140
                                                cases e140
                                                replace hx140_0 := (HB.out.cell (World.block_lt_of_cell? w _ hx140_0)).trans hx140_0
                                                replace p140 := eq_true p140
                                                replace q140 := eq_true q140
                                                have p141 : 0 ≤ (x15_4 : Int) := of_decide_eq_true (by first | (with_reducible assumption) | assumption)
                                                have q141 : x15_4 < (l0.length : Int) := of_decide_eq_true (by first | (with_reducible assumption) | assumption)
                                                obtain ⟨ad141, e141, hx141_0⟩ := Kd.at_int HR0.out x15_4 p141 q141
                                                obtain rfl : ad140 = ad141 := (by injection e141)
                                                replace hx141_0 := (HB.out.cell (World.block_lt_of_cell? w _ hx141_0)).trans hx141_0
                                                replace p141 := eq_true p141
                                                replace q141 := eq_true q141
                                                go_wp2_with (first | (go_at_call 10; (with_reducible refine (checked_Add.calls (rd l0 (ji38)) (rd l0 x15_4) t142 false _ A42.out).mono ?_); rintro e w' ⟨rfl, ⟨nd, rfl⟩⟩; (try first | exact ⟨rfl, _, World.drewN_drewN _ _ _⟩ | exact ⟨rfl, _, Eq.trans (World.drewN_drewN _ _ _) (congrArg (World.drewN _) (Nat.add_assoc _ _ _))⟩)) | (go_at_call 10; (with_reducible refine (checked_Add.calls (rd l0 x15_4) (rd l0 (ji38)) t144 t145 _ A43.out).mono ?_); rintro e w' ⟨rfl, ⟨nd, rfl⟩⟩; (try first | exact ⟨rfl, _, World.drewN_drewN _ _ _⟩ | exact ⟨rfl, _, Eq.trans (World.drewN_drewN _ _ _) (congrArg (World.drewN _) (Nat.add_assoc _ _ _))⟩)) | (go_at_call 12; (with_reducible refine (checked_Mul.calls k4 (rd l0 (ji38)) (rd l0 x15_4) t146 true _ A44.out).mono ?_); rintro e w' ⟨rfl, ⟨nd, rfl⟩⟩; (try first | exact ⟨rfl, _, World.drewN_drewN _ _ _⟩ | exact ⟨rfl, _, Eq.trans (World.drewN_drewN _ _ _) (congrArg (World.drewN _) (Nat.add_assoc _ _ _))⟩)) | (go_at_call 12; (with_reducible refine (checked_Mul.calls k4 (rd l0 x15_4) (rd l0 (ji38)) t148 t149 _ A45.out).mono ?_); rintro e w' ⟨rfl, ⟨nd, rfl⟩⟩; (try first | exact ⟨rfl, _, World.drewN_drewN _ _ _⟩ | exact ⟨rfl, _, Eq.trans (World.drewN_drewN _ _ _) (congrArg (World.drewN _) (Nat.add_assoc _ _ _))⟩)))
                                                repeat (go_quiet (first | (go_at_call 10; (with_reducible refine (checked_Add.calls (rd l0 (ji38)) (rd l0 x15_4) t142 false _ A42.out).mono ?_); rintro e w' ⟨rfl, ⟨nd, rfl⟩⟩; (try first | exact ⟨rfl, _, World.drewN_drewN _ _ _⟩ | exact ⟨rfl, _, Eq.trans (World.drewN_drewN _ _ _) (congrArg (World.drewN _) (Nat.add_assoc _ _ _))⟩)) | (go_at_call 10; (with_reducible refine (checked_Add.calls (rd l0 x15_4) (rd l0 (ji38)) t144 t145 _ A43.out).mono ?_); rintro e w' ⟨rfl, ⟨nd, rfl⟩⟩; (try first | exact ⟨rfl, _, World.drewN_drewN _ _ _⟩ | exact ⟨rfl, _, Eq.trans (World.drewN_drewN _ _ _) (congrArg (World.drewN _) (Nat.add_assoc _ _ _))⟩)) | (go_at_call 12; (with_reducible refine (checked_Mul.calls k4 (rd l0 (ji38)) (rd l0 x15_4) t146 true _ A44.out).mono ?_); rintro e w' ⟨rfl, ⟨nd, rfl⟩⟩; (try first | exact ⟨rfl, _, World.drewN_drewN _ _ _⟩ | exact ⟨rfl, _, Eq.trans (World.drewN_drewN _ _ _) (congrArg (World.drewN _) (Nat.add_assoc _ _ _))⟩)) | (go_at_call 12; (with_reducible refine (checked_Mul.calls k4 (rd l0 x15_4) (rd l0 (ji38)) t148 t149 _ A45.out).mono ?_); rintro e w' ⟨rfl, ⟨nd, rfl⟩⟩; (try first | exact ⟨rfl, _, World.drewN_drewN _ _ _⟩ | exact ⟨rfl, _, Eq.trans (World.drewN_drewN _ _ _) (congrArg (World.drewN _) (Nat.add_assoc _ _ _))⟩))); try go_wp2_with (first | (go_at_call 10; (with_reducible refine (checked_Add.calls (rd l0 (ji38)) (rd l0 x15_4) t142 false _ A42.out).mono ?_); rintro e w' ⟨rfl, ⟨nd, rfl⟩⟩; (try first | exact ⟨rfl, _, World.drewN_drewN _ _ _⟩ | exact ⟨rfl, _, Eq.trans (World.drewN_drewN _ _ _) (congrArg (World.drewN _) (Nat.add_assoc _ _ _))⟩)) | (go_at_call 10; (with_reducible refine (checked_Add.calls (rd l0 x15_4) (rd l0 (ji38)) t144 t145 _ A43.out).mono ?_); rintro e w' ⟨rfl, ⟨nd, rfl⟩⟩; (try first | exact ⟨rfl, _, World.drewN_drewN _ _ _⟩ | exact ⟨rfl, _, Eq.trans (World.drewN_drewN _ _ _) (congrArg (World.drewN _) (Nat.add_assoc _ _ _))⟩)) | (go_at_call 12; (with_reducible refine (checked_Mul.calls k4 (rd l0 (ji38)) (rd l0 x15_4) t146 true _ A44.out).mono ?_); rintro e w' ⟨rfl, ⟨nd, rfl⟩⟩; (try first | exact ⟨rfl, _, World.drewN_drewN _ _ _⟩ | exact ⟨rfl, _, Eq.trans (World.drewN_drewN _ _ _) (congrArg (World.drewN _) (Nat.add_assoc _ _ _))⟩)) | (go_at_call 12; (with_reducible refine (checked_Mul.calls k4 (rd l0 x15_4) (rd l0 (ji38)) t148 t149 _ A45.out).mono ?_); rintro e w' ⟨rfl, ⟨nd, rfl⟩⟩; (try first | exact ⟨rfl, _, World.drewN_drewN _ _ _⟩ | exact ⟨rfl, _, Eq.trans (World.drewN_drewN _ _ _) (congrArg (World.drewN _) (Nat.add_assoc _ _ _))⟩))))
                                                go_roundg k4
                                                case measure => have := HJ4.out; have := HJ8.out; have := HJ32.out; have := HK4.out; omega
                                                case rel => exact ⟨(wrap64 (x15_4 + 1)), (by first | rfl | (simp; done) | (simp [*]; done)), H', ⟨by have := HJ4.out; have := HJ8.out; have := HJ32.out; have := HK4.out; omega⟩, ⟨by repeat (first | (with_reducible first | exact HB.out | apply below_alloc | apply pw_below_drewN | apply below_drew1) | exact HB.out)⟩⟩
                                              · rw [if_neg c56] at H
                                                have c56b0 : ((rd l0 (ji38)) == 0) = false := beq_eq_false_iff_ne.mpr c56
                                                have c56b1 : ((rd l0 (ji38)) != 0) = true := bne_iff_ne.mpr c56
                                                by_cases c57 : (wrap64 (Int.tdiv t146 (rd l0 (ji38)))) = (rd l0 x15_4)
                                                · rw [if_pos c57] at H
                                                  have c57b0 : ((wrap64 (Int.tdiv t146 (rd l0 (ji38)))) == (rd l0 x15_4)) = true := beq_iff_eq.mpr c57
                                                  have c57b1 : ((wrap64 (Int.tdiv t146 (rd l0 (ji38)))) != (rd l0 x15_4)) = false := bne_eq_false_iff_eq.mpr c57
                                                  clear c57
                                                  have H' := Aside0.mk H
                                                  clear H
                                                  have p140 : 0 ≤ ((ji38) : Int) := of_decide_eq_true (by first | (with_reducible assumption) | assumption)
                                                  have q140 : (ji38) < (l0.length : Int) := of_decide_eq_true (by first | (with_reducible assumption) | assumption)
                                                  obtain ⟨ad140, e140, hx140_0⟩ := Kd.at_int HR0.out (ji38) p140 q140
                                                  cases e140
                                                  replace hx140_0 := (HB.out.cell (World.block_lt_of_cell? w _ hx140_0)).trans hx140_0
                                                  replace p140 := eq_true p140
                                                  replace q140 := eq_true q140
                                                  have p141 : 0 ≤ (x15_4 : Int) := of_decide_eq_true (by first | (with_reducible assumption) | assumption)
                                                  have q141 : x15_4 < (l0.length : Int) := of_decide_eq_true (by first | (with_reducible assumption) | assumption)
                                                  obtain ⟨ad141, e141, hx141_0⟩ := Kd.at_int HR0.out x15_4 p141 q141
                                                  obtain rfl : ad140 = ad141 := (by injection e141)
                                                  replace hx141_0 := (HB.out.cell (World.block_lt_of_cell? w _ hx141_0)).trans hx141_0
                                                  replace p141 := eq_true p141
                                                  replace q141 := eq_true q141
                                                  go_wp2_with (first | (go_at_call 10; (with_reducible refine (checked_Add.calls (rd l0 (ji38)) (rd l0 x15_4) t142 false _ A42.out).mono ?_); rintro e w' ⟨rfl, ⟨nd, rfl⟩⟩; (try first | exact ⟨rfl, _, World.drewN_drewN _ _ _⟩ | exact ⟨rfl, _, Eq.trans (World.drewN_drewN _ _ _) (congrArg (World.drewN _) (Nat.add_assoc _ _ _))⟩)) | (go_at_call 10; (with_reducible refine (checked_Add.calls (rd l0 x15_4) (rd l0 (ji38)) t144 t145 _ A43.out).mono ?_); rintro e w' ⟨rfl, ⟨nd, rfl⟩⟩; (try first | exact ⟨rfl, _, World.drewN_drewN _ _ _⟩ | exact ⟨rfl, _, Eq.trans (World.drewN_drewN _ _ _) (congrArg (World.drewN _) (Nat.add_assoc _ _ _))⟩)) | (go_at_call 12; (with_reducible refine (checked_Mul.calls k4 (rd l0 (ji38)) (rd l0 x15_4) t146 true _ A44.out).mono ?_); rintro e w' ⟨rfl, ⟨nd, rfl⟩⟩; (try first | exact ⟨rfl, _, World.drewN_drewN _ _ _⟩ | exact ⟨rfl, _, Eq.trans (World.drewN_drewN _ _ _) (congrArg (World.drewN _) (Nat.add_assoc _ _ _))⟩)) | (go_at_call 12; (with_reducible refine (checked_Mul.calls k4 (rd l0 x15_4) (rd l0 (ji38)) t148 t149 _ A45.out).mono ?_); rintro e w' ⟨rfl, ⟨nd, rfl⟩⟩; (try first | exact ⟨rfl, _, World.drewN_drewN _ _ _⟩ | exact ⟨rfl, _, Eq.trans (World.drewN_drewN _ _ _) (congrArg (World.drewN _) (Nat.add_assoc _ _ _))⟩)))
                                                  repeat (go_quiet (first | (go_at_call 10; (with_reducible refine (checked_Add.calls (rd l0 (ji38)) (rd l0 x15_4) t142 false _ A42.out).mono ?_); rintro e w' ⟨rfl, ⟨nd, rfl⟩⟩; (try first | exact ⟨rfl, _, World.drewN_drewN _ _ _⟩ | exact ⟨rfl, _, Eq.trans (World.drewN_drewN _ _ _) (congrArg (World.drewN _) (Nat.add_assoc _ _ _))⟩)) | (go_at_call 10; (with_reducible refine (checked_Add.calls (rd l0 x15_4) (rd l0 (ji38)) t144 t145 _ A43.out).mono ?_); rintro e w' ⟨rfl, ⟨nd, rfl⟩⟩; (try first | exact ⟨rfl, _, World.drewN_drewN _ _ _⟩ | exact ⟨rfl, _, Eq.trans (World.drewN_drewN _ _ _) (congrArg (World.drewN _) (Nat.add_assoc _ _ _))⟩)) | (go_at_call 12; (with_reducible refine (checked_Mul.calls k4 (rd l0 (ji38)) (rd l0 x15_4) t146 true _ A44.out).mono ?_); rintro e w' ⟨rfl, ⟨nd, rfl⟩⟩; (try first | exact ⟨rfl, _, World.drewN_drewN _ _ _⟩ | exact ⟨rfl, _, Eq.trans (World.drewN_drewN _ _ _) (congrArg (World.drewN _) (Nat.add_assoc _ _ _))⟩)) | (go_at_call 12; (with_reducible refine (checked_Mul.calls k4 (rd l0 x15_4) (rd l0 (ji38)) t148 t149 _ A45.out).mono ?_); rintro e w' ⟨rfl, ⟨nd, rfl⟩⟩; (try first | exact ⟨rfl, _, World.drewN_drewN _ _ _⟩ | exact ⟨rfl, _, Eq.trans (World.drewN_drewN _ _ _) (congrArg (World.drewN _) (Nat.add_assoc _ _ _))⟩))); try go_wp2_with (first | (go_at_call 10; (with_reducible refine (checked_Add.calls (rd l0 (ji38)) (rd l0 x15_4) t142 false _ A42.out).mono ?_); rintro e w' ⟨rfl, ⟨nd, rfl⟩⟩; (try first | exact ⟨rfl, _, World.drewN_drewN _ _ _⟩ | exact ⟨rfl, _, Eq.trans (World.drewN_drewN _ _ _) (congrArg (World.drewN _) (Nat.add_assoc _ _ _))⟩)) | (go_at_call 10; (with_reducible refine (checked_Add.calls (rd l0 x15_4) (rd l0 (ji38)) t144 t145 _ A43.out).mono ?_); rintro e w' ⟨rfl, ⟨nd, rfl⟩⟩; (try first | exact ⟨rfl, _, World.drewN_drewN _ _ _⟩ | exact ⟨rfl, _, Eq.trans (World.drewN_drewN _ _ _) (congrArg (World.drewN _) (Nat.add_assoc _ _ _))⟩)) | (go_at_call 12; (with_reducible refine (checked_Mul.calls k4 (rd l0 (ji38)) (rd l0 x15_4) t146 true _ A44.out).mono ?_); rintro e w' ⟨rfl, ⟨nd, rfl⟩⟩; (try first | exact ⟨rfl, _, World.drewN_drewN _ _ _⟩ | exact ⟨rfl, _, Eq.trans (World.drewN_drewN _ _ _) (congrArg (World.drewN _) (Nat.add_assoc _ _ _))⟩)) | (go_at_call 12; (with_reducible refine (checked_Mul.calls k4 (rd l0 x15_4) (rd l0 (ji38)) t148 t149 _ A45.out).mono ?_); rintro e w' ⟨rfl, ⟨nd, rfl⟩⟩; (try first | exact ⟨rfl, _, World.drewN_drewN _ _ _⟩ | exact ⟨rfl, _, Eq.trans (World.drewN_drewN _ _ _) (congrArg (World.drewN _) (Nat.add_assoc _ _ _))⟩))))
                                                  go_roundg k4
                                                  case measure => have := HJ4.out; have := HJ8.out; have := HJ32.out; have := HK4.out; omega
                                                  case rel => exact ⟨(wrap64 (x15_4 + 1)), (by first | rfl | (simp; done) | (simp [*]; done)), H', ⟨by have := HJ4.out; have := HJ8.out; have := HJ32.out; have := HK4.out; omega⟩, ⟨by repeat (first | (with_reducible first | exact HB.out | apply below_alloc | apply pw_below_drewN | apply below_drew1) | exact HB.out)⟩⟩
                                                · rw [if_neg c57] at H
                                                  have c57b0 : ((wrap64 (Int.tdiv t146 (rd l0 (ji38)))) == (rd l0 x15_4)) = false := beq_eq_false_iff_ne.mpr c57
                                                  have c57b1 : ((wrap64 (Int.tdiv t146 (rd l0 (ji38)))) != (rd l0 x15_4)) = true := bne_iff_ne.mpr c57
                                                  obtain rfl := Option.some.inj H
                                                  have p140 : 0 ≤ ((ji38) : Int) := of_decide_eq_true (by first | (with_reducible assumption) | assumption)
                                                  have q140 : (ji38) < (l0.length : Int) := of_decide_eq_true (by first | (with_reducible assumption) | assumption)
                                                  obtain ⟨ad140, e140, hx140_0⟩ := Kd.at_int HR0.out (ji38) p140 q140
                                                  cases e140
                                                  replace hx140_0 := (HB.out.cell (World.block_lt_of_cell? w _ hx140_0)).trans hx140_0
                                                  replace p140 := eq_true p140
                                                  replace q140 := eq_true q140
                                                  have p141 : 0 ≤ (x15_4 : Int) := of_decide_eq_true (by first | (with_reducible assumption) | assumption)
                                                  have q141 : x15_4 < (l0.length : Int) := of_decide_eq_true (by first | (with_reducible assumption) | assumption)
                                                  obtain ⟨ad141, e141, hx141_0⟩ := Kd.at_int HR0.out x15_4 p141 q141
                                                  obtain rfl : ad140 = ad141 := (by injection e141)
                                                  replace hx141_0 := (HB.out.cell (World.block_lt_of_cell? w _ hx141_0)).trans hx141_0
                                                  replace p141 := eq_true p141
                                                  replace q141 := eq_true q141
                                                  go_wp2_with (first | (go_at_call 10; (with_reducible refine (checked_Add.calls (rd l0 (ji38)) (rd l0 x15_4) t142 false _ A42.out).mono ?_); rintro e w' ⟨rfl, ⟨nd, rfl⟩⟩; (try first | exact ⟨rfl, _, World.drewN_drewN _ _ _⟩ | exact ⟨rfl, _, Eq.trans (World.drewN_drewN _ _ _) (congrArg (World.drewN _) (Nat.add_assoc _ _ _))⟩)) | (go_at_call 10; (with_reducible refine (checked_Add.calls (rd l0 x15_4) (rd l0 (ji38)) t144 t145 _ A43.out).mono ?_); rintro e w' ⟨rfl, ⟨nd, rfl⟩⟩; (try first | exact ⟨rfl, _, World.drewN_drewN _ _ _⟩ | exact ⟨rfl, _, Eq.trans (World.drewN_drewN _ _ _) (congrArg (World.drewN _) (Nat.add_assoc _ _ _))⟩)) | (go_at_call 12; (with_reducible refine (checked_Mul.calls k4 (rd l0 (ji38)) (rd l0 x15_4) t146 true _ A44.out).mono ?_); rintro e w' ⟨rfl, ⟨nd, rfl⟩⟩; (try first | exact ⟨rfl, _, World.drewN_drewN _ _ _⟩ | exact ⟨rfl, _, Eq.trans (World.drewN_drewN _ _ _) (congrArg (World.drewN _) (Nat.add_assoc _ _ _))⟩)) | (go_at_call 12; (with_reducible refine (checked_Mul.calls k4 (rd l0 x15_4) (rd l0 (ji38)) t148 t149 _ A45.out).mono ?_); rintro e w' ⟨rfl, ⟨nd, rfl⟩⟩; (try first | exact ⟨rfl, _, World.drewN_drewN _ _ _⟩ | exact ⟨rfl, _, Eq.trans (World.drewN_drewN _ _ _) (congrArg (World.drewN _) (Nat.add_assoc _ _ _))⟩)))
                                                  repeat (go_quiet (first | (go_at_call 10; (with_reducible refine (checked_Add.calls (rd l0 (ji38)) (rd l0 x15_4) t142 false _ A42.out).mono ?_); rintro e w' ⟨rfl, ⟨nd, rfl⟩⟩; (try first | exact ⟨rfl, _, World.drewN_drewN _ _ _⟩ | exact ⟨rfl, _, Eq.trans (World.drewN_drewN _ _ _) (congrArg (World.drewN _) (Nat.add_assoc _ _ _))⟩)) | (go_at_call 10; (with_reducible refine (checked_Add.calls (rd l0 x15_4) (rd l0 (ji38)) t144 t145 _ A43.out).mono ?_); rintro e w' ⟨rfl, ⟨nd, rfl⟩⟩; (try first | exact ⟨rfl, _, World.drewN_drewN _ _ _⟩ | exact ⟨rfl, _, Eq.trans (World.drewN_drewN _ _ _) (congrArg (World.drewN _) (Nat.add_assoc _ _ _))⟩)) | (go_at_call 12; (with_reducible refine (checked_Mul.calls k4 (rd l0 (ji38)) (rd l0 x15_4) t146 true _ A44.out).mono ?_); rintro e w' ⟨rfl, ⟨nd, rfl⟩⟩; (try first | exact ⟨rfl, _, World.drewN_drewN _ _ _⟩ | exact ⟨rfl, _, Eq.trans (World.drewN_drewN _ _ _) (congrArg (World.drewN _) (Nat.add_assoc _ _ _))⟩)) | (go_at_call 12; (with_reducible refine (checked_Mul.calls k4 (rd l0 x15_4) (rd l0 (ji38)) t148 t149 _ A45.out).mono ?_); rintro e w' ⟨rfl, ⟨nd, rfl⟩⟩; (try first | exact ⟨rfl, _, World.drewN_drewN _ _ _⟩ | exact ⟨rfl, _, Eq.trans (World.drewN_drewN _ _ _) (congrArg (World.drewN _) (Nat.add_assoc _ _ _))⟩))); try go_wp2_with (first | (go_at_call 10; (with_reducible refine (checked_Add.calls (rd l0 (ji38)) (rd l0 x15_4) t142 false _ A42.out).mono ?_); rintro e w' ⟨rfl, ⟨nd, rfl⟩⟩; (try first | exact ⟨rfl, _, World.drewN_drewN _ _ _⟩ | exact ⟨rfl, _, Eq.trans (World.drewN_drewN _ _ _) (congrArg (World.drewN _) (Nat.add_assoc _ _ _))⟩)) | (go_at_call 10; (with_reducible refine (checked_Add.calls (rd l0 x15_4) (rd l0 (ji38)) t144 t145 _ A43.out).mono ?_); rintro e w' ⟨rfl, ⟨nd, rfl⟩⟩; (try first | exact ⟨rfl, _, World.drewN_drewN _ _ _⟩ | exact ⟨rfl, _, Eq.trans (World.drewN_drewN _ _ _) (congrArg (World.drewN _) (Nat.add_assoc _ _ _))⟩)) | (go_at_call 12; (with_reducible refine (checked_Mul.calls k4 (rd l0 (ji38)) (rd l0 x15_4) t146 true _ A44.out).mono ?_); rintro e w' ⟨rfl, ⟨nd, rfl⟩⟩; (try first | exact ⟨rfl, _, World.drewN_drewN _ _ _⟩ | exact ⟨rfl, _, Eq.trans (World.drewN_drewN _ _ _) (congrArg (World.drewN _) (Nat.add_assoc _ _ _))⟩)) | (go_at_call 12; (with_reducible refine (checked_Mul.calls k4 (rd l0 x15_4) (rd l0 (ji38)) t148 t149 _ A45.out).mono ?_); rintro e w' ⟨rfl, ⟨nd, rfl⟩⟩; (try first | exact ⟨rfl, _, World.drewN_drewN _ _ _⟩ | exact ⟨rfl, _, Eq.trans (World.drewN_drewN _ _ _) (congrArg (World.drewN _) (Nat.add_assoc _ _ _))⟩))))
                                                  go_ret
                                                  exact ⟨by first | rfl | (simp [errW_none, errW_some] <;> rfl) | (simp only [← hji38]; first | rfl | (simp [errW_none, errW_some] <;> rfl)) | (simp [*, errW_none, errW_some] <;> rfl), by repeat (first | (with_reducible first | exact HB.out | apply below_alloc | apply pw_below_drewN | apply below_drew1) | exact HB.out)⟩
                                            · replace c55 := Bool.eq_false_iff.mpr c55
                                              subst c55
                                              have H1 : (gluepotlaw06_CheckedOrder.l1 k4 l0 (wrap64 (x15_4 + 1))) = some r := by rw [if_neg (show ¬ (false = true) by decide)] at H; exact H
                                              clear H
                                              have H := H1
                                              clear H1
                                              have H' := Aside0.mk H
                                              clear H
                                              have p140 : 0 ≤ ((ji38) : Int) := of_decide_eq_true (by first | (with_reducible assumption) | assumption)
                                              have q140 : (ji38) < (l0.length : Int) := of_decide_eq_true (by first | (with_reducible assumption) | assumption)
                                              obtain ⟨ad140, e140, hx140_0⟩ := Kd.at_int HR0.out (ji38) p140 q140
                                              cases e140
                                              replace hx140_0 := (HB.out.cell (World.block_lt_of_cell? w _ hx140_0)).trans hx140_0
                                              replace p140 := eq_true p140
                                              replace q140 := eq_true q140
                                              have p141 : 0 ≤ (x15_4 : Int) := of_decide_eq_true (by first | (with_reducible assumption) | assumption)
                                              have q141 : x15_4 < (l0.length : Int) := of_decide_eq_true (by first | (with_reducible assumption) | assumption)
                                              obtain ⟨ad141, e141, hx141_0⟩ := Kd.at_int HR0.out x15_4 p141 q141
                                              obtain rfl : ad140 = ad141 := (by injection e141)
                                              replace hx141_0 := (HB.out.cell (World.block_lt_of_cell? w _ hx141_0)).trans hx141_0
                                              replace p141 := eq_true p141
                                              replace q141 := eq_true q141
                                              go_wp2_with (first | (go_at_call 10; (with_reducible refine (checked_Add.calls (rd l0 (ji38)) (rd l0 x15_4) t142 false _ A42.out).mono ?_); rintro e w' ⟨rfl, ⟨nd, rfl⟩⟩; (try first | exact ⟨rfl, _, World.drewN_drewN _ _ _⟩ | exact ⟨rfl, _, Eq.trans (World.drewN_drewN _ _ _) (congrArg (World.drewN _) (Nat.add_assoc _ _ _))⟩)) | (go_at_call 10; (with_reducible refine (checked_Add.calls (rd l0 x15_4) (rd l0 (ji38)) t144 t145 _ A43.out).mono ?_); rintro e w' ⟨rfl, ⟨nd, rfl⟩⟩; (try first | exact ⟨rfl, _, World.drewN_drewN _ _ _⟩ | exact ⟨rfl, _, Eq.trans (World.drewN_drewN _ _ _) (congrArg (World.drewN _) (Nat.add_assoc _ _ _))⟩)) | (go_at_call 12; (with_reducible refine (checked_Mul.calls k4 (rd l0 (ji38)) (rd l0 x15_4) t146 false _ A44.out).mono ?_); rintro e w' ⟨rfl, ⟨nd, rfl⟩⟩; (try first | exact ⟨rfl, _, World.drewN_drewN _ _ _⟩ | exact ⟨rfl, _, Eq.trans (World.drewN_drewN _ _ _) (congrArg (World.drewN _) (Nat.add_assoc _ _ _))⟩)) | (go_at_call 12; (with_reducible refine (checked_Mul.calls k4 (rd l0 x15_4) (rd l0 (ji38)) t148 t149 _ A45.out).mono ?_); rintro e w' ⟨rfl, ⟨nd, rfl⟩⟩; (try first | exact ⟨rfl, _, World.drewN_drewN _ _ _⟩ | exact ⟨rfl, _, Eq.trans (World.drewN_drewN _ _ _) (congrArg (World.drewN _) (Nat.add_assoc _ _ _))⟩)))
                                              repeat (go_quiet (first | (go_at_call 10; (with_reducible refine (checked_Add.calls (rd l0 (ji38)) (rd l0 x15_4) t142 false _ A42.out).mono ?_); rintro e w' ⟨rfl, ⟨nd, rfl⟩⟩; (try first | exact ⟨rfl, _, World.drewN_drewN _ _ _⟩ | exact ⟨rfl, _, Eq.trans (World.drewN_drewN _ _ _) (congrArg (World.drewN _) (Nat.add_assoc _ _ _))⟩)) | (go_at_call 10; (with_reducible refine (checked_Add.calls (rd l0 x15_4) (rd l0 (ji38)) t144 t145 _ A43.out).mono ?_); rintro e w' ⟨rfl, ⟨nd, rfl⟩⟩; (try first | exact ⟨rfl, _, World.drewN_drewN _ _ _⟩ | exact ⟨rfl, _, Eq.trans (World.drewN_drewN _ _ _) (congrArg (World.drewN _) (Nat.add_assoc _ _ _))⟩)) | (go_at_call 12; (with_reducible refine (checked_Mul.calls k4 (rd l0 (ji38)) (rd l0 x15_4) t146 false _ A44.out).mono ?_); rintro e w' ⟨rfl, ⟨nd, rfl⟩⟩; (try first | exact ⟨rfl, _, World.drewN_drewN _ _ _⟩ | exact ⟨rfl, _, Eq.trans (World.drewN_drewN _ _ _) (congrArg (World.drewN _) (Nat.add_assoc _ _ _))⟩)) | (go_at_call 12; (with_reducible refine (checked_Mul.calls k4 (rd l0 x15_4) (rd l0 (ji38)) t148 t149 _ A45.out).mono ?_); rintro e w' ⟨rfl, ⟨nd, rfl⟩⟩; (try first | exact ⟨rfl, _, World.drewN_drewN _ _ _⟩ | exact ⟨rfl, _, Eq.trans (World.drewN_drewN _ _ _) (congrArg (World.drewN _) (Nat.add_assoc _ _ _))⟩))); try go_wp2_with (first | (go_at_call 10; (with_reducible refine (checked_Add.calls (rd l0 (ji38)) (rd l0 x15_4) t142 false _ A42.out).mono ?_); rintro e w' ⟨rfl, ⟨nd, rfl⟩⟩; (try first | exact ⟨rfl, _, World.drewN_drewN _ _ _⟩ | exact ⟨rfl, _, Eq.trans (World.drewN_drewN _ _ _) (congrArg (World.drewN _) (Nat.add_assoc _ _ _))⟩)) | (go_at_call 10; (with_reducible refine (checked_Add.calls (rd l0 x15_4) (rd l0 (ji38)) t144 t145 _ A43.out).mono ?_); rintro e w' ⟨rfl, ⟨nd, rfl⟩⟩; (try first | exact ⟨rfl, _, World.drewN_drewN _ _ _⟩ | exact ⟨rfl, _, Eq.trans (World.drewN_drewN _ _ _) (congrArg (World.drewN _) (Nat.add_assoc _ _ _))⟩)) | (go_at_call 12; (with_reducible refine (checked_Mul.calls k4 (rd l0 (ji38)) (rd l0 x15_4) t146 false _ A44.out).mono ?_); rintro e w' ⟨rfl, ⟨nd, rfl⟩⟩; (try first | exact ⟨rfl, _, World.drewN_drewN _ _ _⟩ | exact ⟨rfl, _, Eq.trans (World.drewN_drewN _ _ _) (congrArg (World.drewN _) (Nat.add_assoc _ _ _))⟩)) | (go_at_call 12; (with_reducible refine (checked_Mul.calls k4 (rd l0 x15_4) (rd l0 (ji38)) t148 t149 _ A45.out).mono ?_); rintro e w' ⟨rfl, ⟨nd, rfl⟩⟩; (try first | exact ⟨rfl, _, World.drewN_drewN _ _ _⟩ | exact ⟨rfl, _, Eq.trans (World.drewN_drewN _ _ _) (congrArg (World.drewN _) (Nat.add_assoc _ _ _))⟩))))
                                              go_roundg k4
                                              case measure => have := HJ4.out; have := HJ8.out; have := HJ32.out; have := HK4.out; omega
                                              case rel => exact ⟨(wrap64 (x15_4 + 1)), (by first | rfl | (simp; done) | (simp [*]; done)), H', ⟨by have := HJ4.out; have := HJ8.out; have := HJ32.out; have := HK4.out; omega⟩, ⟨by repeat (first | (with_reducible first | exact HB.out | apply below_alloc | apply pw_below_drewN | apply below_drew1) | exact HB.out)⟩⟩
                                      · rw [if_neg c48] at H
                                        have c48b0 : (t146 == t148) = false := beq_eq_false_iff_ne.mpr c48
                                        have c48b1 : (t146 != t148) = true := bne_iff_ne.mpr c48
                                        obtain rfl := Option.some.inj H
                                        have p140 : 0 ≤ ((ji38) : Int) := of_decide_eq_true (by first | (with_reducible assumption) | assumption)
                                        have q140 : (ji38) < (l0.length : Int) := of_decide_eq_true (by first | (with_reducible assumption) | assumption)
                                        obtain ⟨ad140, e140, hx140_0⟩ := Kd.at_int HR0.out (ji38) p140 q140
                                        cases e140
                                        replace hx140_0 := (HB.out.cell (World.block_lt_of_cell? w _ hx140_0)).trans hx140_0
                                        replace p140 := eq_true p140
                                        replace q140 := eq_true q140
                                        have p141 : 0 ≤ (x15_4 : Int) := of_decide_eq_true (by first | (with_reducible assumption) | assumption)
                                        have q141 : x15_4 < (l0.length : Int) := of_decide_eq_true (by first | (with_reducible assumption) | assumption)
                                        obtain ⟨ad141, e141, hx141_0⟩ := Kd.at_int HR0.out x15_4 p141 q141
                                        obtain rfl : ad140 = ad141 := (by injection e141)
                                        replace hx141_0 := (HB.out.cell (World.block_lt_of_cell? w _ hx141_0)).trans hx141_0
                                        replace p141 := eq_true p141
                                        replace q141 := eq_true q141
                                        go_wp2_with (first | (go_at_call 10; (with_reducible refine (checked_Add.calls (rd l0 (ji38)) (rd l0 x15_4) t142 t143 _ A42.out).mono ?_); rintro e w' ⟨rfl, ⟨nd, rfl⟩⟩; (try first | exact ⟨rfl, _, World.drewN_drewN _ _ _⟩ | exact ⟨rfl, _, Eq.trans (World.drewN_drewN _ _ _) (congrArg (World.drewN _) (Nat.add_assoc _ _ _))⟩)) | (go_at_call 10; (with_reducible refine (checked_Add.calls (rd l0 x15_4) (rd l0 (ji38)) t144 t145 _ A43.out).mono ?_); rintro e w' ⟨rfl, ⟨nd, rfl⟩⟩; (try first | exact ⟨rfl, _, World.drewN_drewN _ _ _⟩ | exact ⟨rfl, _, Eq.trans (World.drewN_drewN _ _ _) (congrArg (World.drewN _) (Nat.add_assoc _ _ _))⟩)) | (go_at_call 12; (with_reducible refine (checked_Mul.calls k4 (rd l0 (ji38)) (rd l0 x15_4) t146 t147 _ A44.out).mono ?_); rintro e w' ⟨rfl, ⟨nd, rfl⟩⟩; (try first | exact ⟨rfl, _, World.drewN_drewN _ _ _⟩ | exact ⟨rfl, _, Eq.trans (World.drewN_drewN _ _ _) (congrArg (World.drewN _) (Nat.add_assoc _ _ _))⟩)) | (go_at_call 12; (with_reducible refine (checked_Mul.calls k4 (rd l0 x15_4) (rd l0 (ji38)) t148 t149 _ A45.out).mono ?_); rintro e w' ⟨rfl, ⟨nd, rfl⟩⟩; (try first | exact ⟨rfl, _, World.drewN_drewN _ _ _⟩ | exact ⟨rfl, _, Eq.trans (World.drewN_drewN _ _ _) (congrArg (World.drewN _) (Nat.add_assoc _ _ _))⟩)))
                                        repeat (go_quiet (first | (go_at_call 10; (with_reducible refine (checked_Add.calls (rd l0 (ji38)) (rd l0 x15_4) t142 t143 _ A42.out).mono ?_); rintro e w' ⟨rfl, ⟨nd, rfl⟩⟩; (try first | exact ⟨rfl, _, World.drewN_drewN _ _ _⟩ | exact ⟨rfl, _, Eq.trans (World.drewN_drewN _ _ _) (congrArg (World.drewN _) (Nat.add_assoc _ _ _))⟩)) | (go_at_call 10; (with_reducible refine (checked_Add.calls (rd l0 x15_4) (rd l0 (ji38)) t144 t145 _ A43.out).mono ?_); rintro e w' ⟨rfl, ⟨nd, rfl⟩⟩; (try first | exact ⟨rfl, _, World.drewN_drewN _ _ _⟩ | exact ⟨rfl, _, Eq.trans (World.drewN_drewN _ _ _) (congrArg (World.drewN _) (Nat.add_assoc _ _ _))⟩)) | (go_at_call 12; (with_reducible refine (checked_Mul.calls k4 (rd l0 (ji38)) (rd l0 x15_4) t146 t147 _ A44.out).mono ?_); rintro e w' ⟨rfl, ⟨nd, rfl⟩⟩; (try first | exact ⟨rfl, _, World.drewN_drewN _ _ _⟩ | exact ⟨rfl, _, Eq.trans (World.drewN_drewN _ _ _) (congrArg (World.drewN _) (Nat.add_assoc _ _ _))⟩)) | (go_at_call 12; (with_reducible refine (checked_Mul.calls k4 (rd l0 x15_4) (rd l0 (ji38)) t148 t149 _ A45.out).mono ?_); rintro e w' ⟨rfl, ⟨nd, rfl⟩⟩; (try first | exact ⟨rfl, _, World.drewN_drewN _ _ _⟩ | exact ⟨rfl, _, Eq.trans (World.drewN_drewN _ _ _) (congrArg (World.drewN _) (Nat.add_assoc _ _ _))⟩))); try go_wp2_with (first | (go_at_call 10; (with_reducible refine (checked_Add.calls (rd l0 (ji38)) (rd l0 x15_4) t142 t143 _ A42.out).mono ?_); rintro e w' ⟨rfl, ⟨nd, rfl⟩⟩; (try first | exact ⟨rfl, _, World.drewN_drewN _ _ _⟩ | exact ⟨rfl, _, Eq.trans (World.drewN_drewN _ _ _) (congrArg (World.drewN _) (Nat.add_assoc _ _ _))⟩)) | (go_at_call 10; (with_reducible refine (checked_Add.calls (rd l0 x15_4) (rd l0 (ji38)) t144 t145 _ A43.out).mono ?_); rintro e w' ⟨rfl, ⟨nd, rfl⟩⟩; (try first | exact ⟨rfl, _, World.drewN_drewN _ _ _⟩ | exact ⟨rfl, _, Eq.trans (World.drewN_drewN _ _ _) (congrArg (World.drewN _) (Nat.add_assoc _ _ _))⟩)) | (go_at_call 12; (with_reducible refine (checked_Mul.calls k4 (rd l0 (ji38)) (rd l0 x15_4) t146 t147 _ A44.out).mono ?_); rintro e w' ⟨rfl, ⟨nd, rfl⟩⟩; (try first | exact ⟨rfl, _, World.drewN_drewN _ _ _⟩ | exact ⟨rfl, _, Eq.trans (World.drewN_drewN _ _ _) (congrArg (World.drewN _) (Nat.add_assoc _ _ _))⟩)) | (go_at_call 12; (with_reducible refine (checked_Mul.calls k4 (rd l0 x15_4) (rd l0 (ji38)) t148 t149 _ A45.out).mono ?_); rintro e w' ⟨rfl, ⟨nd, rfl⟩⟩; (try first | exact ⟨rfl, _, World.drewN_drewN _ _ _⟩ | exact ⟨rfl, _, Eq.trans (World.drewN_drewN _ _ _) (congrArg (World.drewN _) (Nat.add_assoc _ _ _))⟩))))
                                        go_ret
                                        exact ⟨by first | rfl | (simp [errW_none, errW_some] <;> rfl) | (simp only [← hji38]; first | rfl | (simp [errW_none, errW_some] <;> rfl)) | (simp [*, errW_none, errW_some] <;> rfl), by repeat (first | (with_reducible first | exact HB.out | apply below_alloc | apply pw_below_drewN | apply below_drew1) | exact HB.out)⟩
                                  · rw [if_neg c46] at H
                                    have c46b0 : (t142 == t144) = false := beq_eq_false_iff_ne.mpr c46
                                    have c46b1 : (t142 != t144) = true := bne_iff_ne.mpr c46
                                    obtain rfl := Option.some.inj H
                                    have p140 : 0 ≤ ((ji38) : Int) := of_decide_eq_true (by first | (with_reducible assumption) | assumption)
                                    have q140 : (ji38) < (l0.length : Int) := of_decide_eq_true (by first | (with_reducible assumption) | assumption)
                                    obtain ⟨ad140, e140, hx140_0⟩ := Kd.at_int HR0.out (ji38) p140 q140
                                    cases e140
                                    replace hx140_0 := (HB.out.cell (World.block_lt_of_cell? w _ hx140_0)).trans hx140_0
                                    replace p140 := eq_true p140
                                    replace q140 := eq_true q140
                                    have p141 : 0 ≤ (x15_4 : Int) := of_decide_eq_true (by first | (with_reducible assumption) | assumption)
                                    have q141 : x15_4 < (l0.length : Int) := of_decide_eq_true (by first | (with_reducible assumption) | assumption)
                                    obtain ⟨ad141, e141, hx141_0⟩ := Kd.at_int HR0.out x15_4 p141 q141
                                    obtain rfl : ad140 = ad141 := (by injection e141)
                                    replace hx141_0 := (HB.out.cell (World.block_lt_of_cell? w _ hx141_0)).trans hx141_0
                                    replace p141 := eq_true p141
                                    replace q141 := eq_true q141
                                    go_wp2_with (first | (go_at_call 10; (with_reducible refine (checked_Add.calls (rd l0 (ji38)) (rd l0 x15_4) t142 t143 _ A42.out).mono ?_); rintro e w' ⟨rfl, ⟨nd, rfl⟩⟩; (try first | exact ⟨rfl, _, World.drewN_drewN _ _ _⟩ | exact ⟨rfl, _, Eq.trans (World.drewN_drewN _ _ _) (congrArg (World.drewN _) (Nat.add_assoc _ _ _))⟩)) | (go_at_call 10; (with_reducible refine (checked_Add.calls (rd l0 x15_4) (rd l0 (ji38)) t144 t145 _ A43.out).mono ?_); rintro e w' ⟨rfl, ⟨nd, rfl⟩⟩; (try first | exact ⟨rfl, _, World.drewN_drewN _ _ _⟩ | exact ⟨rfl, _, Eq.trans (World.drewN_drewN _ _ _) (congrArg (World.drewN _) (Nat.add_assoc _ _ _))⟩)) | (go_at_call 12; (with_reducible refine (checked_Mul.calls k4 (rd l0 (ji38)) (rd l0 x15_4) t146 t147 _ A44.out).mono ?_); rintro e w' ⟨rfl, ⟨nd, rfl⟩⟩; (try first | exact ⟨rfl, _, World.drewN_drewN _ _ _⟩ | exact ⟨rfl, _, Eq.trans (World.drewN_drewN _ _ _) (congrArg (World.drewN _) (Nat.add_assoc _ _ _))⟩)) | (go_at_call 12; (with_reducible refine (checked_Mul.calls k4 (rd l0 x15_4) (rd l0 (ji38)) t148 t149 _ A45.out).mono ?_); rintro e w' ⟨rfl, ⟨nd, rfl⟩⟩; (try first | exact ⟨rfl, _, World.drewN_drewN _ _ _⟩ | exact ⟨rfl, _, Eq.trans (World.drewN_drewN _ _ _) (congrArg (World.drewN _) (Nat.add_assoc _ _ _))⟩)))
                                    repeat (go_quiet (first | (go_at_call 10; (with_reducible refine (checked_Add.calls (rd l0 (ji38)) (rd l0 x15_4) t142 t143 _ A42.out).mono ?_); rintro e w' ⟨rfl, ⟨nd, rfl⟩⟩; (try first | exact ⟨rfl, _, World.drewN_drewN _ _ _⟩ | exact ⟨rfl, _, Eq.trans (World.drewN_drewN _ _ _) (congrArg (World.drewN _) (Nat.add_assoc _ _ _))⟩)) | (go_at_call 10; (with_reducible refine (checked_Add.calls (rd l0 x15_4) (rd l0 (ji38)) t144 t145 _ A43.out).mono ?_); rintro e w' ⟨rfl, ⟨nd, rfl⟩⟩; (try first | exact ⟨rfl, _, World.drewN_drewN _ _ _⟩ | exact ⟨rfl, _, Eq.trans (World.drewN_drewN _ _ _) (congrArg (World.drewN _) (Nat.add_assoc _ _ _))⟩)) | (go_at_call 12; (with_reducible refine (checked_Mul.calls k4 (rd l0 (ji38)) (rd l0 x15_4) t146 t147 _ A44.out).mono ?_); rintro e w' ⟨rfl, ⟨nd, rfl⟩⟩; (try first | exact ⟨rfl, _, World.drewN_drewN _ _ _⟩ | exact ⟨rfl, _, Eq.trans (World.drewN_drewN _ _ _) (congrArg (World.drewN _) (Nat.add_assoc _ _ _))⟩)) | (go_at_call 12; (with_reducible refine (checked_Mul.calls k4 (rd l0 x15_4) (rd l0 (ji38)) t148 t149 _ A45.out).mono ?_); rintro e w' ⟨rfl, ⟨nd, rfl⟩⟩; (try first | exact ⟨rfl, _, World.drewN_drewN _ _ _⟩ | exact ⟨rfl, _, Eq.trans (World.drewN_drewN _ _ _) (congrArg (World.drewN _) (Nat.add_assoc _ _ _))⟩))); try go_wp2_with (first | (go_at_call 10; (with_reducible refine (checked_Add.calls (rd l0 (ji38)) (rd l0 x15_4) t142 t143 _ A42.out).mono ?_); rintro e w' ⟨rfl, ⟨nd, rfl⟩⟩; (try first | exact ⟨rfl, _, World.drewN_drewN _ _ _⟩ | exact ⟨rfl, _, Eq.trans (World.drewN_drewN _ _ _) (congrArg (World.drewN _) (Nat.add_assoc _ _ _))⟩)) | (go_at_call 10; (with_reducible refine (checked_Add.calls (rd l0 x15_4) (rd l0 (ji38)) t144 t145 _ A43.out).mono ?_); rintro e w' ⟨rfl, ⟨nd, rfl⟩⟩; (try first | exact ⟨rfl, _, World.drewN_drewN _ _ _⟩ | exact ⟨rfl, _, Eq.trans (World.drewN_drewN _ _ _) (congrArg (World.drewN _) (Nat.add_assoc _ _ _))⟩)) | (go_at_call 12; (with_reducible refine (checked_Mul.calls k4 (rd l0 (ji38)) (rd l0 x15_4) t146 t147 _ A44.out).mono ?_); rintro e w' ⟨rfl, ⟨nd, rfl⟩⟩; (try first | exact ⟨rfl, _, World.drewN_drewN _ _ _⟩ | exact ⟨rfl, _, Eq.trans (World.drewN_drewN _ _ _) (congrArg (World.drewN _) (Nat.add_assoc _ _ _))⟩)) | (go_at_call 12; (with_reducible refine (checked_Mul.calls k4 (rd l0 x15_4) (rd l0 (ji38)) t148 t149 _ A45.out).mono ?_); rintro e w' ⟨rfl, ⟨nd, rfl⟩⟩; (try first | exact ⟨rfl, _, World.drewN_drewN _ _ _⟩ | exact ⟨rfl, _, Eq.trans (World.drewN_drewN _ _ _) (congrArg (World.drewN _) (Nat.add_assoc _ _ _))⟩))))
                                    go_ret
                                    exact ⟨by first | rfl | (simp [errW_none, errW_some] <;> rfl) | (simp only [← hji38]; first | rfl | (simp [errW_none, errW_some] <;> rfl)) | (simp [*, errW_none, errW_some] <;> rfl), by repeat (first | (with_reducible first | exact HB.out | apply below_alloc | apply pw_below_drewN | apply below_drew1) | exact HB.out)⟩
                                · rw [if_neg c41] at H
                                  exact absurd H (by simp)
                              · rw [if_neg c40] at H
                                exact absurd H (by simp)
                            · rw [if_neg c39] at H
                              exact absurd H (by simp)
                          · rw [if_neg c37] at H
                            have c37b0 : decide (x15_4 < (l0.length : Int)) = false := decide_eq_false c37
                            clear c37
                            obtain rfl := Option.some.inj H
                            go_wp2
                            repeat (go_quiet (fail); try go_wp2)
                            go_ret
                            exact ⟨by first | rfl | (simp [errW_none, errW_some] <;> rfl) | (simp [*, errW_none, errW_some] <;> rfl), by repeat (first | (with_reducible first | exact HB.out | apply below_alloc | apply pw_below_drewN | apply below_drew1) | exact HB.out)⟩
          · rw [if_neg c8] at H
            exact absurd H (by simp)
  · replace c4 := Bool.eq_false_iff.mpr c4
    subst c4
    have H1 : (some false) = some r := by rw [if_neg (show ¬ (false = true) by decide)] at H; exact H
    clear H
    have H := H1
    clear H1
    obtain rfl := Option.some.inj H
    go_enter Try.func5, Try.ntmps5
    go_wp2_with (first | (go_at_call 9; (with_reducible refine (gluepotlaw06_awake.calls  false _ A3.out).mono ?_); rintro e w' ⟨rfl, ⟨nd, rfl⟩⟩; (try first | exact ⟨rfl, _, World.drewN_drewN _ _ _⟩ | exact ⟨rfl, _, Eq.trans (World.drewN_drewN _ _ _) (congrArg (World.drewN _) (Nat.add_assoc _ _ _))⟩)))
    repeat (go_quiet (first | (go_at_call 9; (with_reducible refine (gluepotlaw06_awake.calls  false _ A3.out).mono ?_); rintro e w' ⟨rfl, ⟨nd, rfl⟩⟩; (try first | exact ⟨rfl, _, World.drewN_drewN _ _ _⟩ | exact ⟨rfl, _, Eq.trans (World.drewN_drewN _ _ _) (congrArg (World.drewN _) (Nat.add_assoc _ _ _))⟩))); try go_wp2_with (first | (go_at_call 9; (with_reducible refine (gluepotlaw06_awake.calls  false _ A3.out).mono ?_); rintro e w' ⟨rfl, ⟨nd, rfl⟩⟩; (try first | exact ⟨rfl, _, World.drewN_drewN _ _ _⟩ | exact ⟨rfl, _, Eq.trans (World.drewN_drewN _ _ _) (congrArg (World.drewN _) (Nat.add_assoc _ _ _))⟩))))
    go_ret
    exact ⟨by first | rfl | (simp [errW_none, errW_some] <;> rfl) | (simp [*, errW_none, errW_some] <;> rfl), by repeat (first | (with_reducible first | exact HB.out | apply below_alloc | apply pw_below_drewN | apply below_drew1) | exact HB.out)⟩

end Go.Proofs.Ytpnbelgbcmkdnaa.Pr
