/- naive.Learn's contract: the text that wip/pr.py prints, mended by a program (wip/fixlearn.py). -/
-- MENDED
-- Written by wip/pr.py (over the print of the kit) out of the translation.
import Derived.Test.YtbfjlfbahjmibaaHTexts
import Derived.Lib.SlBytesRow
import Derived.Test.YtbfjlfbahjmibaaPr0
import Derived.Test.YtbfjlfbahjmibaaPr10
import Derived.Test.YtbfjlfbahjmibaaPr11
import Derived.Test.YtbfjlfbahjmibaaPr40
import Derived.Test.YtbfjlfbahjmibaaHBest
namespace Go.Proofs.Ytbfjlfbahjmibaa.Pr
open Go.RowKit Go.Proofs.YtbfjlfbahjmibaaW.PrintWords Go.Proofs.YtbfjlfbahjmibaaW.PrintLast Go.Proofs.YtbfjlfbahjmibaaW.PrintMore
attribute [local go_sem] max2_int min2_int max_two min_two max_three min_three max_four min_four   -- for this text's walks alone
set_option linter.unusedVariables false
set_option linter.unusedSimpArgs false

/-! ### naive_Learn: function 22 -/
mutual
def naive_Learn.j0 : Nat → List (S35) → Int → Int → Bool → Option ((List (S45)))
  | 0, _, _, _, _ => none
  | k + 1, x0, x1, x2, x30 => if x30 = true then (some ([] : List (S45))) else (naive_Learn.l0 k x1 x2 ([] : List (List ByteArray)) ([] : List Int) x0 (x0.length : Int) 0)
def naive_Learn.l0 : Nat → Int → Int → List (List ByteArray) → List Int → List (S35) → Int → Int → Option ((List (S45)))
  | 0, _, _, _, _, _, _, _ => none
  | k + 1, x1, x2, x9, x10, x31, x32, x33 => if x33 < x32 then (if 0 ≤ x33 then (if x33 < (x31.length : Int) then ((stats_texts.f ((rd_T35 x31 x33).f0)).bind fun t326 => ((some (([t326] : List (List ByteArray)) : List (List ByteArray))).bind fun y329 => (if x9.length + y329.length < 5864062014805 then ((some (([(rd_T35 x31 x33).f1] : List Int) : List Int)).bind fun y335 => (if x10.length + y335.length < 17592186044416 then (naive_Learn.l0 k x1 x2 (x9 ++ y329) (x10 ++ y335) x31 x32 (wrap64 (x33 + 1))) else (none))) else (none)))) else (none)) else (none)) else (naive_Learn.l1 k x1 x2 x9 x10 ([] : List (S45)))
def naive_Learn.l1 : Nat → Int → Int → List (List ByteArray) → List Int → List (S45) → Option ((List (S45)))
  | 0, _, _, _, _, _ => none
  | k + 1, x1, x2, x9, x10, x16 => if (x16.length : Int) < x1 then ((naive_Best.f x9 x10).bind fun bt341 => (if bt341.2.2 < x2 then (some x16) else ((strings_Clone.f bt341.1).bind fun t345 => ((strings_Clone.f bt341.2.1).bind fun t346 => ((some (([(⟨t345, t346⟩ : S45)] : List (S45)) : List (S45))).bind fun y347 => (if x16.length + y347.length < 4398046511104 then (naive_Learn.l2 k x1 x2 x9 x10 (x16 ++ y347) (x9.length : Int) 0 bt341.1 bt341.2.1) else (none))))))) else (some x16)
def naive_Learn.l2 : Nat → Int → Int → List (List ByteArray) → List Int → List (S45) → Int → Int → ByteArray → ByteArray → Option ((List (S45)))
  | 0, _, _, _, _, _, _, _, _, _ => none
  | k + 1, x1, x2, x9, x10, x16, x86, x87, x345000, x345001 => if x87 < x86 then (if 0 ≤ x87 then (if x87 < (x9.length : Int) then ((naive_Join.f k (rd_L4 x9 x87) x345000 x345001).bind fun t354 => (naive_Learn.l2 k x1 x2 (x9.set (x87 : Int).toNat t354) x10 x16 x86 (wrap64 (x87 + 1)) x345000 x345001)) else (none)) else (none)) else (naive_Learn.l1 k x1 x2 x9 x10 x16)
end
def naive_Learn.f (k : Nat) (l0 : List (S35)) (a1 : Int) (a2 : Int) : Option ((List (S45))) := (table_Check.f k l0).bind fun bt322 => (if bt322.2 = 0 then (naive_Learn.j0 k l0 a1 a2 (decide (a2 < 1))) else (naive_Learn.j0 k l0 a1 a2 true))
theorem naive_Learn.mono_l : ∀ k, (∀ y0 y1 y2 y3, LeO (naive_Learn.j0 k y0 y1 y2 y3) (naive_Learn.j0 (k + 1) y0 y1 y2 y3)) ∧ (∀ y0 y1 y2 y3 y4 y5 y6, LeO (naive_Learn.l0 k y0 y1 y2 y3 y4 y5 y6) (naive_Learn.l0 (k + 1) y0 y1 y2 y3 y4 y5 y6)) ∧ (∀ y0 y1 y2 y3 y4, LeO (naive_Learn.l1 k y0 y1 y2 y3 y4) (naive_Learn.l1 (k + 1) y0 y1 y2 y3 y4)) ∧ (∀ y0 y1 y2 y3 y4 y5 y6 y7 y8, LeO (naive_Learn.l2 k y0 y1 y2 y3 y4 y5 y6 y7 y8) (naive_Learn.l2 (k + 1) y0 y1 y2 y3 y4 y5 y6 y7 y8))
  | 0 => ⟨fun _ _ _ _ r h => by simp [naive_Learn.j0] at h, fun _ _ _ _ _ _ _ r h => by simp [naive_Learn.l0] at h, fun _ _ _ _ _ r h => by simp [naive_Learn.l1] at h, fun _ _ _ _ _ _ _ _ _ r h => by simp [naive_Learn.l2] at h⟩
  | k + 1 => by
    obtain ⟨ih0, ih1, ih2, ih3⟩ := naive_Learn.mono_l k
    refine ⟨?_, ?_, ?_, ?_⟩
    · intro y0 y1 y2 y3
      unfold naive_Learn.j0
      repeat' first
      | (with_reducible exact ih0 _ _ _ _)
      | (with_reducible exact ih1 _ _ _ _ _ _ _)
      | (with_reducible exact ih2 _ _ _ _ _)
      | (with_reducible exact ih3 _ _ _ _ _ _ _ _ _)
      | (with_reducible exact naive_Join.mono _ _ _ _)
      | (with_reducible exact table_Check.mono _ _)
      | (with_reducible exact LeO.refl _)
      | (with_reducible exact LeO.none _)
      | (with_reducible refine LeO.ite ?_ ?_)
      | (with_reducible refine LeO.bind ?_ (fun _ => ?_))
      | exact ih0 _ _ _ _
      | exact ih1 _ _ _ _ _ _ _
      | exact ih2 _ _ _ _ _
      | exact ih3 _ _ _ _ _ _ _ _ _
      | exact naive_Join.mono _ _ _ _
      | exact table_Check.mono _ _
      | exact LeO.none _
      | refine LeO.ite ?_ ?_
      | refine LeO.bind ?_ (fun _ => ?_)
    · intro y0 y1 y2 y3 y4 y5 y6
      unfold naive_Learn.l0
      repeat' first
      | (with_reducible exact ih0 _ _ _ _)
      | (with_reducible exact ih1 _ _ _ _ _ _ _)
      | (with_reducible exact ih2 _ _ _ _ _)
      | (with_reducible exact ih3 _ _ _ _ _ _ _ _ _)
      | (with_reducible exact naive_Join.mono _ _ _ _)
      | (with_reducible exact table_Check.mono _ _)
      | (with_reducible exact LeO.refl _)
      | (with_reducible exact LeO.none _)
      | (with_reducible refine LeO.ite ?_ ?_)
      | (with_reducible refine LeO.bind ?_ (fun _ => ?_))
      | exact ih0 _ _ _ _
      | exact ih1 _ _ _ _ _ _ _
      | exact ih2 _ _ _ _ _
      | exact ih3 _ _ _ _ _ _ _ _ _
      | exact naive_Join.mono _ _ _ _
      | exact table_Check.mono _ _
      | exact LeO.none _
      | refine LeO.ite ?_ ?_
      | refine LeO.bind ?_ (fun _ => ?_)
    · intro y0 y1 y2 y3 y4
      unfold naive_Learn.l1
      repeat' first
      | (with_reducible exact ih0 _ _ _ _)
      | (with_reducible exact ih1 _ _ _ _ _ _ _)
      | (with_reducible exact ih2 _ _ _ _ _)
      | (with_reducible exact ih3 _ _ _ _ _ _ _ _ _)
      | (with_reducible exact naive_Join.mono _ _ _ _)
      | (with_reducible exact table_Check.mono _ _)
      | (with_reducible exact LeO.refl _)
      | (with_reducible exact LeO.none _)
      | (with_reducible refine LeO.ite ?_ ?_)
      | (with_reducible refine LeO.bind ?_ (fun _ => ?_))
      | exact ih0 _ _ _ _
      | exact ih1 _ _ _ _ _ _ _
      | exact ih2 _ _ _ _ _
      | exact ih3 _ _ _ _ _ _ _ _ _
      | exact naive_Join.mono _ _ _ _
      | exact table_Check.mono _ _
      | exact LeO.none _
      | refine LeO.ite ?_ ?_
      | refine LeO.bind ?_ (fun _ => ?_)
    · intro y0 y1 y2 y3 y4 y5 y6 y7 y8
      unfold naive_Learn.l2
      repeat' first
      | (with_reducible exact ih0 _ _ _ _)
      | (with_reducible exact ih1 _ _ _ _ _ _ _)
      | (with_reducible exact ih2 _ _ _ _ _)
      | (with_reducible exact ih3 _ _ _ _ _ _ _ _ _)
      | (with_reducible exact naive_Join.mono _ _ _ _)
      | (with_reducible exact table_Check.mono _ _)
      | (with_reducible exact LeO.refl _)
      | (with_reducible exact LeO.none _)
      | (with_reducible refine LeO.ite ?_ ?_)
      | (with_reducible refine LeO.bind ?_ (fun _ => ?_))
      | exact ih0 _ _ _ _
      | exact ih1 _ _ _ _ _ _ _
      | exact ih2 _ _ _ _ _
      | exact ih3 _ _ _ _ _ _ _ _ _
      | exact naive_Join.mono _ _ _ _
      | exact table_Check.mono _ _
      | exact LeO.none _
      | refine LeO.ite ?_ ?_
      | refine LeO.bind ?_ (fun _ => ?_)
theorem naive_Learn.mono : ∀ a0 a1 a2 k, LeO (naive_Learn.f k a0 a1 a2) (naive_Learn.f (k + 1) a0 a1 a2) := by
  intro a0 a1 a2 k
  obtain ⟨ih0, ih1, ih2, ih3⟩ := naive_Learn.mono_l k
  unfold naive_Learn.f
  repeat' first
      | (with_reducible exact ih0 _ _ _ _)
      | (with_reducible exact ih1 _ _ _ _ _ _ _)
      | (with_reducible exact ih2 _ _ _ _ _)
      | (with_reducible exact ih3 _ _ _ _ _ _ _ _ _)
      | (with_reducible exact naive_Join.mono _ _ _ _)
      | (with_reducible exact table_Check.mono _ _)
      | (with_reducible exact LeO.refl _)
      | (with_reducible exact LeO.none _)
      | (with_reducible refine LeO.ite ?_ ?_)
      | (with_reducible refine LeO.bind ?_ (fun _ => ?_))
      | exact ih0 _ _ _ _
      | exact ih1 _ _ _ _ _ _ _
      | exact ih2 _ _ _ _ _
      | exact ih3 _ _ _ _ _ _ _ _ _
      | exact naive_Join.mono _ _ _ _
      | exact table_Check.mono _ _
      | exact LeO.none _
      | refine LeO.ite ?_ ?_
      | refine LeO.bind ?_ (fun _ => ?_)
def naive_Learn.T15 : Bool × List (List Nat × List Nat) := (true, [([], []), ([], []), ([1], [1]), ([0, 2], [0, 2]), ([], []), ([], []), ([5], [5]), ([6], [6]), ([4, 7, 3], [4, 7]), ([3, 8, 0, 1, 2, 3], [0, 3]), ([8, 9, 0, 1, 2, 3, 4, 5, 6, 7, 8, 9], [4, 8])])
def naive_Learn.B15 : List Nat := [0, 0, 2, 7, 0, 0, 32, 96, 255, 511, 1023]
theorem naive_Learn.tab15 : rtab .any (opsOf Try.f22 15) = naive_Learn.T15 := by kernel_rfl
theorem naive_Learn.bits15 : waitsOk naive_Learn.T15.2 naive_Learn.B15 = true := by kernel_rfl
def naive_Learn.T21 : Bool × List (List Nat × List Nat) := (true, [([], []), ([], []), ([1], [1]), ([2], [2]), ([], []), ([4], [4]), ([5, 3], [5]), ([3, 6], [3, 6]), ([7], [7]), ([0, 8, 6], [0, 8]), ([9, 9, 0, 1, 2, 3, 4, 5, 6, 7, 8, 9], [0, 9])])
def naive_Learn.B21 : List Nat := [0, 0, 2, 6, 0, 16, 62, 126, 254, 511, 1023]
theorem naive_Learn.tab21 : rtab .any (opsOf Try.f22 21) = naive_Learn.T21 := by kernel_rfl
theorem naive_Learn.bits21 : waitsOk naive_Learn.T21.2 naive_Learn.B21 = true := by kernel_rfl
def naive_Learn.T25 : Bool × List (List Nat × List Nat) := (true, [([], []), ([], []), ([], []), ([], []), ([2, 3], [2, 3]), ([4], [4]), ([], []), ([5, 6], [5, 6]), ([0, 1, 0, 1, 2, 3, 4, 5, 6, 7], [0, 1]), ([8, 7, 7, 0, 1, 2, 3, 4, 5, 6, 7], [7, 8])])
def naive_Learn.B25 : List Nat := [0, 0, 0, 0, 12, 28, 0, 124, 255, 511]
theorem naive_Learn.tab25 : rtab .any (opsOf Try.f22 25) = naive_Learn.T25 := by kernel_rfl
theorem naive_Learn.bits25 : waitsOk naive_Learn.T25.2 naive_Learn.B25 = true := by kernel_rfl
set_option maxHeartbeats 8000000 in
set_option maxRecDepth 100000 in
theorem naive_Learn.calls (k : Nat) (A0 : Option Addr) (c0 : Nat) (l0 : List (S35)) (a1 : Int) (a2 : Int) (r : List (S45)) (w : World) (hr0 : Kd.C k35 w A0 l0.length l0) (hc0 : l0.length ≤ c0) (h : naive_Learn.f k l0 a1 a2 = some r) :
    Calls Try.prog 22 #[.slice A0 l0.length c0, .int .i64 a1, .int .i64 a2] w fun e w' => ∃ v0_ : Value, e = .returned (v0_) ∧ Kd.R k45 45 w' w.heap.size (fun _ => True) v0_ r ∧ Below w.heap.size w w' := by
  have hu35 := Try.underlying35
  have hu45 := Try.underlying45
  have HR0 := Aside0.mk hr0
  have HC0 := Aside0.mk hc0
  clear hr0 hc0
  have HB := Aside0.mk (Below.refl w.heap.size w)
  have H : ((table_Check.f k l0).bind fun bt322 => (if bt322.2 = 0 then (naive_Learn.j0 k l0 a1 a2 (decide (a2 < 1))) else (naive_Learn.j0 k l0 a1 a2 true))) = some r := h
  clear h
  replace H := Option.bind_eq_some_iff.mp H
  obtain ⟨⟨t322, t323⟩, A40, H⟩ := H
  replace H : (if t323 = 0 then (naive_Learn.j0 k l0 a1 a2 (decide (a2 < 1))) else (naive_Learn.j0 k l0 a1 a2 true)) = some r := H
  have A4 := Aside0.mk A40
  clear A40
  have HC5 := Aside0.mk H
  clear H
  go_enter Try.func22, Try.ntmps22
  go_upto_region 2 with (first | ((with_reducible refine gate_callee (f := 34) rfl ?_); refine goesL_ (some 22) rfl rfl Try.func34 (by kernel_rfl) rfl #[.slice A0 l0.length c0] rfl (by (try simp only [List.map_toArray, List.map_cons, List.map_nil]); first | done | rfl | (simp only [List.length_drop, List.length_take]; rfl)) ?_; (with_reducible refine (table_Check.calls k _ _ l0 t322 t323 _ ?side1 ?side2 A4.out).mono ?_); (case side1 => repeat (first | exact HR0.out | (with_reducible refine Kd.C_alloc ?_ _) | (with_reducible refine Kd.C_drewN ?_ _) | (with_reducible refine Kd.C_drew ?_))); (case side2 => exact HC0.out); rintro e w6 ⟨rfl, hb⟩; refine ⟨_, rfl, ?_⟩; have n0_ := Aside0.mk (below_step (by repeat (first | (with_reducible first | exact HB.out | apply below_alloc | apply pw_below_drewN | apply below_drew1) | exact HB.out)) hb); clear HB; have HB := n0_; clear n0_; (try clear hb); (try clear hb2); (try clear hk); (try clear hi)))
  (try simp only [Act.put, List.setIfInBounds_toArray, List.set_cons_zero, List.set_cons_succ])
  go_cut [30] (fun v30 wc => ∃ (kq : Nat) (x30_4 : Bool), v30 = .bool x30_4 ∧ Aside0 (naive_Learn.j0 kq l0 a1 a2 x30_4 = some r) ∧ Aside0 (kq ≤ k) ∧ Aside0 (Below w.heap.size w wc))
  case first =>
    have H := HC5.out
    clear HC5
    by_cases c7 : t323 = 0
    · rw [if_pos c7] at H
      have c7b0 : (t323 == 0) = true := beq_iff_eq.mpr c7
      have c7b1 : (t323 != 0) = false := bne_eq_false_iff_eq.mpr c7
      clear c7
      (first | rw [c7b0] | (simp only [i64_w, i32_w]; rw [c7b0]) | skip)
      have H' := Aside0.mk H
      clear H
      go_wp2
      go_meet
      case rel => exact ⟨_, (decide (a2 < 1)), (by first | rfl | (simp; done) | (simp [*]; done)), H', ⟨by first | omega | exact Nat.le_refl _⟩, ⟨by repeat (first | (with_reducible first | exact HB.out | apply below_alloc | apply pw_below_drewN | apply below_drew1) | exact HB.out)⟩⟩
    · rw [if_neg c7] at H
      have c7b0 : (t323 == 0) = false := beq_eq_false_iff_ne.mpr c7
      have c7b1 : (t323 != 0) = true := bne_iff_ne.mpr c7
      (first | rw [c7b0] | (simp only [i64_w, i32_w]; rw [c7b0]) | skip)
      have H' := Aside0.mk H
      clear H
      go_wp2
      go_meet
      case rel => exact ⟨_, (true), (by first | rfl | (simp; done) | (simp [*]; done)), H', ⟨by first | omega | exact Nat.le_refl _⟩, ⟨by repeat (first | (with_reducible first | exact HB.out | apply below_alloc | apply pw_below_drewN | apply below_drew1) | exact HB.out)⟩⟩
  case rest =>
    clear HC5
    try clear c2
    try clear p2
    try clear c3
    try clear c7
    try clear c7b0
    try clear c7b1
    obtain ⟨kq, x30_4, rfl, HA, HJ4, HB⟩ := hcut
    cases kq with
    | zero => exact absurd HA.out (by simp [naive_Learn.j0])
    | succ kj4 =>
      have H := HA.out
      clear HA
      simp only [naive_Learn.j0] at H
      by_cases c8 : x30_4 = true
      · subst c8
        have H1 : (some ([] : List (S45))) = some r := by rw [if_pos rfl] at H; exact H
        clear H
        have H := H1
        clear H1
        obtain rfl := Option.some.inj H
        go_wp2
        go_ret
        exact ⟨_, by first | rfl | (simp [errW_none, errW_some] <;> rfl) | (simp [*, errW_none, errW_some] <;> rfl), by first | exact Kd.R_nil _ _ _ _ _ | exact Kd.N_nil _ _ _ _ _ | exact Kd.V_nil _ _ _ _ _ | exact Kd.Q_nil _ _ _ _ _ | exact Kd.S_nil _ _ _ _ _, by repeat (first | (with_reducible first | exact HB.out | apply below_alloc | apply pw_below_drewN | apply below_drew1) | exact HB.out)⟩
      · replace c8 := Bool.eq_false_iff.mpr c8
        subst c8
        have H1 : (naive_Learn.l0 kj4 a1 a2 ([] : List (List ByteArray)) ([] : List Int) l0 (l0.length : Int) 0) = some r := by rw [if_neg (show ¬ (false = true) by decide)] at H; exact H
        clear H
        have H := H1
        clear H1
        have H' := Aside0.mk H
        clear H
        go_wp2
        go_loopg [9, 10, 33] kj4 (fun kq v9 v10 v33 w' => ∃ (x9_2 : List (List ByteArray)) (x10_2 : List Int) (x33_2 : Int), v33 = .int .i64 x33_2 ∧ Aside0 (naive_Learn.l0 kq a1 a2 x9_2 x10_2 l0 (l0.length : Int) x33_2 = some r) ∧ Aside0 (kq ≤ kj4) ∧ Aside0 (Kd.N (Kd.slice 9 Kd.string) 46 w' w.heap.size (fun k_ => some k_ ≠ (v10 : Value).ownBlock) v9 x9_2) ∧ Aside0 (Kd.R (Kd.int .i64) 3 w' w.heap.size (fun _ => True) v10 x10_2) ∧ Aside0 (Below w.heap.size w w'))
        case atStart => exact ⟨(([] : List (List ByteArray))), (([] : List Int)), (0), (by first | rfl | (simp; done) | (simp [*]; done)), H', ⟨Nat.le_refl _⟩, ⟨by first | exact Kd.S_nil _ _ _ _ _ | exact Kd.N_nil _ _ _ _ _ | exact Kd.V_nil _ _ _ _ _ | exact Kd.Q_nil _ _ _ _ _ | exact Kd.R_nil _ _ _ _ _⟩, ⟨by first | exact Kd.R_nil _ _ _ _ _ | exact Kd.N_nil _ _ _ _ _ | exact Kd.V_nil _ _ _ _ _ | exact Kd.Q_nil _ _ _ _ _ | exact Kd.S_nil _ _ _ _ _⟩, ⟨by repeat (first | (with_reducible first | exact HB.out | apply below_alloc | apply pw_below_drewN | apply below_drew1) | exact HB.out)⟩⟩
        case round =>
          clear H'
          try clear c2
          try clear p2
          try clear c3
          try clear c7
          try clear c7b0
          try clear c7b1
          try clear c8
          try clear p2
          obtain ⟨x9_2, x10_2, x33_2, rfl, HA, HK2, HO_9, HO_10, HB⟩ := hrel
          cases gk with
          | zero => exact absurd HA.out (by simp [naive_Learn.l0])
          | succ k2 =>
            have H := HA.out
            clear HA
            simp only [naive_Learn.l0] at H
            by_cases c9 : x33_2 < (l0.length : Int)
            · rw [if_pos c9] at H
              have c9b0 : decide (x33_2 < (l0.length : Int)) = true := decide_eq_true c9
              clear c9
              by_cases c10 : 0 ≤ x33_2
              · rw [if_pos c10] at H
                have c10b0 : decide (0 ≤ x33_2) = true := decide_eq_true c10
                clear c10
                by_cases c11 : x33_2 < (l0.length : Int)
                · rw [if_pos c11] at H
                  have c11b0 : decide (x33_2 < (l0.length : Int)) = true := decide_eq_true c11
                  clear c11
                  replace H := Option.bind_eq_some_iff.mp H
                  obtain ⟨t326, A120, H⟩ := H
                  replace H : ((some (([t326] : List (List ByteArray)) : List (List ByteArray))).bind fun y329 => (if x9_2.length + y329.length < 5864062014805 then ((some (([(rd_T35 l0 x33_2).f1] : List Int) : List Int)).bind fun y335 => (if x10_2.length + y335.length < 17592186044416 then (naive_Learn.l0 k2 a1 a2 (x9_2 ++ y329) (x10_2 ++ y335) l0 (l0.length : Int) (wrap64 (x33_2 + 1))) else (none))) else (none))) = some r := H
                  have A12 := Aside0.mk A120
                  clear A120
                  obtain ⟨y329, hy329⟩ : ∃ y_ : List (List ByteArray), y_ = (([t326] : List (List ByteArray))) := ⟨_, rfl⟩
                  replace H : (if x9_2.length + y329.length < 5864062014805 then ((some (([(rd_T35 l0 x33_2).f1] : List Int) : List Int)).bind fun y335 => (if x10_2.length + y335.length < 17592186044416 then (naive_Learn.l0 k2 a1 a2 (x9_2 ++ y329) (x10_2 ++ y335) l0 (l0.length : Int) (wrap64 (x33_2 + 1))) else (none))) else (none)) = some r := by first | (rw [hy329]; with_reducible exact H) | (have H2_ := (Option.bind_some _ _).symm.trans H; rw [hy329]; with_reducible exact H2_) | (have H2_ := (Option.bind_some _ _).symm.trans H; with_reducible exact H2_) | with_reducible exact H | (rw [hy329]; exact H) | exact H
                  have Ny329 := Aside0.mk hy329
                  clear hy329
                  by_cases c13 : x9_2.length + y329.length < 5864062014805
                  · rw [if_pos c13] at H
                    have LMc13 := Aside0.mk c13
                    clear c13
                    obtain ⟨y332, hy332⟩ : ∃ y_ : List (List ByteArray), y_ = (x9_2 ++ y329) := ⟨_, rfl⟩
                    replace H : ((some (([(rd_T35 l0 x33_2).f1] : List Int) : List Int)).bind fun y335 => (if x10_2.length + y335.length < 17592186044416 then (naive_Learn.l0 k2 a1 a2 y332 (x10_2 ++ y335) l0 (l0.length : Int) (wrap64 (x33_2 + 1))) else (none))) = some r := by first | (rw [hy332]; with_reducible exact H) | (have H2_ := (Option.bind_some _ _).symm.trans H; rw [hy332]; with_reducible exact H2_) | (have H2_ := (Option.bind_some _ _).symm.trans H; with_reducible exact H2_) | with_reducible exact H | (rw [hy332]; exact H) | exact H
                    have Ny332 := Aside0.mk hy332
                    clear hy332
                    obtain ⟨y335, hy335⟩ : ∃ y_ : List Int, y_ = (([(rd_T35 l0 x33_2).f1] : List Int)) := ⟨_, rfl⟩
                    replace H : (if x10_2.length + y335.length < 17592186044416 then (naive_Learn.l0 k2 a1 a2 y332 (x10_2 ++ y335) l0 (l0.length : Int) (wrap64 (x33_2 + 1))) else (none)) = some r := by first | (rw [hy335]; with_reducible exact H) | (have H2_ := (Option.bind_some _ _).symm.trans H; rw [hy335]; with_reducible exact H2_) | (have H2_ := (Option.bind_some _ _).symm.trans H; with_reducible exact H2_) | with_reducible exact H | (rw [hy335]; exact H) | exact H
                    have Ny335 := Aside0.mk hy335
                    clear hy335
                    by_cases c14 : x10_2.length + y335.length < 17592186044416
                    · rw [if_pos c14] at H
                      have LMc14 := Aside0.mk c14
                      clear c14
                      obtain ⟨y338, hy338⟩ : ∃ y_ : List Int, y_ = (x10_2 ++ y335) := ⟨_, rfl⟩
                      replace H : (naive_Learn.l0 k2 a1 a2 y332 y338 l0 (l0.length : Int) (wrap64 (x33_2 + 1))) = some r := by first | (rw [hy338]; with_reducible exact H) | (have H2_ := (Option.bind_some _ _).symm.trans H; rw [hy338]; with_reducible exact H2_) | (have H2_ := (Option.bind_some _ _).symm.trans H; with_reducible exact H2_) | with_reducible exact H | (rw [hy338]; exact H) | exact H
                      have Ny338 := Aside0.mk hy338
                      clear hy338
                      have H' := Aside0.mk H
                      clear H
                      have p324 : 0 ≤ (x33_2 : Int) := of_decide_eq_true (by first | (with_reducible assumption) | assumption)
                      have q324 : x33_2 < (l0.length : Int) := of_decide_eq_true (by first | (with_reducible assumption) | assumption)
                      obtain ⟨ad324, e324, hx324_0, hx324_1⟩ := at_T35 HR0.out x33_2 p324 q324
                      cases e324
                      replace hx324_0 := (HB.out.cell (World.block_lt_of_cell? w _ hx324_0)).trans hx324_0
                      replace hx324_1 := (HB.out.cell (World.block_lt_of_cell? w _ hx324_1)).trans hx324_1
                      replace p324 := eq_true p324
                      replace q324 := eq_true q324
                      have hcv := fun W s => Lib.run_convert_string_bytes (P := Try.prog) W 9 69 5 s Try.underlying9 Try.underlying69 Try.underlying5
                      have hot := one_text
                      obtain ⟨i1_, hx1_, hx0_, hxs_, hxb_⟩ := info_parts infoT
                      have htx : ((rd_T35 l0 x33_2).f0).size ≤ 1000000 ∧ ((rd_T35 l0 x33_2).f0).data.toList.map mkT = t326 := by
                        have h_ := A12.out
                        unfold stats_texts.f at h_
                        split at h_
                        · rename_i hz_; cases h_; exact ⟨hz_, rfl⟩
                        · cases h_
                      try go_wp2_with (((with_reducible refine gate_dst (N := 12) rfl ?_); refine box_event ?hg (N := 12) ?hd (cs := #[.string (⟨#[]⟩ : ByteArray), .int .i64 0]) (t := 35) ?hr ?_; (case hd => rfl); (case hg => rfl); (case hr => first | (go_simp; done) | (go_simp; rfl)); intro gb325 hg w15 hbox hb; have n0_ := Aside0.mk (Kd.N_below (Kd.N_elderB (by (with_reducible repeat (first | apply Kd.N_alloc | apply Kd.N_drewN | apply Kd.N_drew)); exact HO_9.out) gb325 (Nat.le_of_eq hg.symm)) hb); have n1_ := Aside0.mk (Kd.R_below (by (with_reducible repeat (first | apply Kd.R_alloc | apply Kd.R_drewN | apply Kd.R_drew)); exact HO_10.out) hb); have n2_ := Aside0.mk (below_step (by repeat (first | (with_reducible first | exact HB.out | apply below_alloc | apply pw_below_drewN | apply below_drew1) | exact HB.out)) hb); have n3_ := Aside0.mk (hbox); have n4_ := Aside0.mk ((by rw [hg]; exact (below_size (by repeat (first | (with_reducible first | exact HB.out | apply below_alloc | apply pw_below_drewN | apply below_drew1) | exact HB.out))) : w.heap.size ≤ gb325)); have n5_ := Aside0.mk ((by rw [hg]; exact (below_size (by repeat (first | (with_reducible first | exact HB.out | apply below_alloc | apply pw_below_drewN | apply below_drew1) | exact HB.out))) : w.heap.size ≤ gb325)); clear HO_9; clear HO_10; clear HB; have HO_9 := n0_; have HO_10 := n1_; have HB := n2_; have BK325 := n3_; have GW325 := n4_; have GE325 := n5_; clear n0_ n1_ n2_ n3_ n4_ n5_; clear hb hbox hg; have hcz16_0 : w15.cell? ⟨gb325, 0, none⟩ = some (.string (⟨#[]⟩ : ByteArray)) := (blk_cell BK325.out 0).trans rfl; have hcz16_1 : w15.cell? ⟨gb325, 1, none⟩ = some (.int .i64 0) := (blk_cell BK325.out 1).trans rfl; have hfz16_0 := blk_frozen BK325.out 0; have hfz16_1 := blk_frozen BK325.out 1))
                      obtain ⟨WC, hWC⟩ : ∃ WC, WC = ((w15.setCell ⟨gb325, 0, none⟩ (.string ((rd_T35 l0 x33_2).f0))).setCell ⟨gb325, 1, none⟩ (.int .i64 ((rd_T35 l0 x33_2).f1))) := ⟨_, rfl⟩
                      have HWC := Aside0.mk hWC
                      have HSZ_ := Aside0.mk (show WC.heap.size = w15.heap.size from by rw [hWC]; simp)
                      have HTX := Aside0.mk htx.2
                      have hsz := htx.1
                      clear htx
                      obtain ⟨s_, hs_⟩ : ∃ s_, s_ = ((rd_T35 l0 x33_2).f0) := ⟨_, rfl⟩
                      have HS_ := Aside0.mk hs_
                      rw [← hs_] at hWC hsz ⊢
                      rw [← hWC]
                      clear hWC hs_ hcv
                      have HNEW := Lib.hid (Lib.bytesWorld_at_new WC 5 s_)
                      have HFR := Lib.hid (Bs.bytes_fr WC 5 s_)
                      obtain ⟨g_, hg_⟩ : ∃ g_, g_ = WC.heap.size := ⟨_, rfl⟩
                      obtain ⟨W0_, hW0_⟩ : ∃ W0_, W0_ = Lib.bytesWorld WC 5 s_ := ⟨_, rfl⟩
                      rw [← hW0_] at HFR HNEW
                      rw [← hg_] at HNEW
                      have HG_ := Lib.hid hg_
                      have HW0_ := Lib.hid hW0_
                      clear hg_ hW0_
                      go_loopw [13, 41] (fun v13 v41 wr => ∃ i : Nat, i ≤ s_.size ∧ v41 = .int .i64 i ∧ wr.ownsRow WC.heap.size TXs 1 v13 ((s_.data.toList.take i).map mkT).length (((s_.data.toList.take i).map mkT).map Value.string) ∧ Bs.Fr (fun _ => False) WC wr ∧ wr.heap[WC.heap.size]? = W0_.heap[WC.heap.size]?) (fun _ v41 _ => s_.size - (intOf v41).toNat)
                      · exact ⟨0, Nat.zero_le _, rfl, ⟨rfl, .inl ⟨rfl, rfl⟩⟩, by rw [← HW0_.out]; exact HFR.out, by rw [← HW0_.out]⟩
                      obtain ⟨i, hi, rfl, hown, hfr, hgw⟩ := hrel
                      have hls_ : s_.data.toList.length = s_.size := by simp
                      rw [← HG_.out, HNEW.out, HG_.out] at hgw
                      have HO_ := Lib.hid hown
                      have HF_ := Lib.hid hfr
                      have HGW_ := Lib.hid hgw
                      clear hown hfr hgw
                      by_cases hlt_ : i < s_.size
                      · have kc : wr.cell? ⟨w15.heap.size, i, none⟩ = some (.int .u8 (s_.data.toList.getD i 0).toNat) := by rw [← HSZ_.out]; exact Bs.bytes_cell HGW_.out i hlt_
                        have htk : (s_.data.toList.take (i + 1)).map mkT = (s_.data.toList.take i).map mkT ++ [mkT (s_.data.toList.getD i 0)] := by
                          rw [List.take_succ_eq_append_getElem (by omega), List.map_append]
                          simp [List.getD, hlt_]
                        have hll : ((s_.data.toList.take i).map mkT).length = i := by simp; omega
                        have HTK := Lib.hid htk
                        have HLL := Lib.hid hll
                        generalize s_.data.toList.getD i 0 = c at *
                        generalize (s_.data.toList.take i).map mkT = L at *
                        obtain ⟨A3, c3, rfl⟩ := Bs.own_slice HO_.out
                        have HOA := Lib.hid ((HO_.out.alloc (.cells #[.int .u8 c.toNat] 5)).alloc (.cells #[.string (mkT c)] TXs))
                        have hsw : WC.heap.size ≤ wr.heap.size := HF_.out.size
                        have hsw2 : WC.heap.size < wr.heap.size := Bs.blk_lt HGW_.out
                        clear htk hll hls_
                        go_wp2_with (at_builtin; refine wpList_append_own_at _ rfl _ _ 46 rfl WC.heap.size TXs i1_ (.string ByteArray.empty) 1 16 Try.underlying46 hx1_ hx0_ hxs_ hxb_ rfl (by decide) (.slice A3 L.length c3) _ _ rfl HOA.out ⟨wr.heap.size + 1, 0, none⟩ 1 1 [.string (mkT c)] rfl rfl ?c1 ?c2 ?c3 ?c4 ?c5 ?_)
                        case c1 =>
                          intro j u hj
                          match j, hj with
                          | 0, hj =>
                            simp at hj
                            subst hj
                            have hn := Bs.heap_new (wr.alloc (.cells #[.int .u8 c.toNat] 5)) (.cells #[.string (mkT c)] TXs)
                            rw [World.size_alloc] at hn
                            rw [show (⟨wr.heap.size + 1, 0, none⟩ : Addr).add 0 = ⟨wr.heap.size + 1, 0, none⟩ by simp [Addr.add], Bs.cell_heap hn]
                            rfl
                        case c2 => intro u hu; simp at hu; subst hu; rfl
                        case c3 => unfold maxLen; have := HLL.out; omega
                        case c4 => have := HLL.out; omega
                        case c5 => simp; omega
                        intro v4 w4 hown4 hg4 _ _
                        have HO4 := Lib.hid (show w4.ownsRow WC.heap.size TXs 1 v4 (L ++ [mkT c]).length ((L ++ [mkT c]).map Value.string) by simpa using hown4)
                        have HF4 := Lib.hid (((HF_.out.alloc (.cells #[.int .u8 c.toNat] 5)).alloc (.cells #[.string (mkT c)] TXs)).grown hg4 (fun k hk => .inr (Bs.own_lt HO_.out hk).1))
                        have hg5 : w4.heap[WC.heap.size]? = W0_.heap[WC.heap.size]? := by
                          rw [hg4.block _ (by simp; omega) (fun e => Bs.own_ne HO_.out HGW_.out (show (5 : Nat) ≠ TXs by decide) e.symm), ← HG_.out, HNEW.out, HG_.out]
                          exact Bs.heap_old (Bs.heap_old HGW_.out _) _
                        have HG5 := Lib.hid hg5
                        clear hg5
                        clear hown4 hg4
                        go_wp2_with fail
                        exact ⟨⟨i + 1, by omega, by go_num, by rw [HTK.out]; exact HO4.out, HF4.out, HG5.out⟩, by simp [intOf]; omega⟩
                      clear hot
                      have hil : i = s_.size := by omega
                      have ho_ := HO_.out
                      rw [hil, List.take_of_length_le (by omega)] at ho_
                      have ho0 : Kd.R Kd.string 9 wr WC.heap.size (fun _ => True) u13 (s_.data.toList.map mkT) := Kd.R_of_own ho_ (fun _ _ => trivial)
                      have hb : Below WC.heap.size WC wr := HF_.out.toBelow (fun _ h => h.elim) (Nat.le_refl _)
                      rw [HS_.out, HTX.out] at ho0
                      have HO0_ := Aside0.mk ho0
                      have HB_ := Aside0.mk hb
                      clear ho_ ho0 hb HO_ HF_ HGW_ HNEW HFR HG_ HW0_ hls_
                      go_wp2_with fail
                      have ho0 := HO0_.out
                      have hb := HB_.out
                      clear HO0_ HB_
                      rw [HWC.out] at ho0 hb
                      clear hil hi hlt_ hsz
                      have n0_ := Aside0.mk (Kd.N_elder' (by (with_reducible repeat (first | apply Kd.N_alloc | apply Kd.N_drewN | apply Kd.N_drew)); exact (Kd.N_mono (Kd.N_far (p := ⟨gb325, 1, none⟩) (Kd.N_far (p := ⟨gb325, 0, none⟩) (Kd.N_mono HO_9.out (fun k_ hk => (⟨hk, hk.2⟩ : _ ∧ k_ ≠ gb325))) (fun _ hk => hk.2) (.string ((rd_T35 l0 x33_2).f0))) (fun _ hk => hk.2) (.int .i64 ((rd_T35 l0 x33_2).f1))) (fun _ h_ => h_.1))) (Kd.R_base ho0) hb)
                      have n1_ := Aside0.mk (Kd.R_below (by (with_reducible repeat (first | apply Kd.R_alloc | apply Kd.R_drewN | apply Kd.R_drew)); exact (Kd.R_mono (Kd.R_far (p := ⟨gb325, 1, none⟩) (Kd.R_far (p := ⟨gb325, 0, none⟩) (Kd.R_types HO_10.out BK325.out (by decide)) (fun _ hk => hk.2) (.string ((rd_T35 l0 x33_2).f0))) (fun _ hk => hk.2) (.int .i64 ((rd_T35 l0 x33_2).f1))) (fun _ h_ => h_.1))) hb)
                      have n2_ := Aside0.mk (Kd.R_lower ho0 (below_size (by repeat (first | (with_reducible first | exact HB.out | apply below_alloc | apply pw_below_drewN | apply below_drew1 | refine below_set ?_ GE325.out) | exact HB.out))))
                      have n3_ := Aside0.mk (blk_below (g := gb325) (o := .cells #[.string ((rd_T35 l0 x33_2).f0), .int .i64 ((rd_T35 l0 x33_2).f1)] 35 (0, 0)) (by (with_reducible repeat (first | refine blk_drewN ?_ _ | refine blk_drew ?_ | refine blk_alloc ?_ _)); refine blk_put (cs := #[.string ((rd_T35 l0 x33_2).f0), .int .i64 0]) ?_ 1 _ rfl; (with_reducible repeat (first | refine blk_drewN ?_ _ | refine blk_drew ?_ | refine blk_alloc ?_ _)); refine blk_put (cs := #[.string (⟨#[]⟩ : ByteArray), .int .i64 0]) ?_ 0 _ rfl; (with_reducible repeat (first | refine blk_drewN ?_ _ | refine blk_drew ?_ | refine blk_alloc ?_ _)); exact BK325.out) hb)
                      have n4_ := Aside0.mk (below_step (by repeat (first | (with_reducible first | exact HB.out | apply below_alloc | apply pw_below_drewN | apply below_drew1 | refine below_set ?_ GE325.out) | exact HB.out)) hb)
                      clear HO_9
                      clear HO_10
                      clear BK325
                      clear HB
                      have HO_9 := n0_
                      have HO_10 := n1_
                      have HO328 := n2_
                      have BK325 := n3_
                      have HB := n4_
                      clear n0_ n1_ n2_ n3_ n4_
                      (try clear hb)
                      (try clear hb2)
                      (try clear hk)
                      (try clear hi)
                      (try clear ho0)
                      obtain ⟨Ao18, co18, eo18⟩ := Kd.N_slice HO_9.out
                      subst eo18
                      obtain ⟨Ao19, co19, eo19⟩ := Kd.R_slice HO_10.out
                      subst eo19
                      have n0_ := Aside0.mk (Kd.N_drew HO_9.out)
                      have n1_ := Aside0.mk (Kd.R_drew HO_10.out)
                      have n2_ := Aside0.mk (Kd.R_drew HO328.out)
                      have n3_ := Aside0.mk (blk_drew BK325.out)
                      have n4_ := Aside0.mk (below_drew1 HB.out)
                      clear HO_9
                      clear HO_10
                      clear HO328
                      clear BK325
                      clear HB
                      have HO_9 := n0_
                      have HO_10 := n1_
                      have HO328 := n2_
                      have BK325 := n3_
                      have HB := n4_
                      clear n0_ n1_ n2_ n3_ n4_
                      obtain ⟨Ao21, co21, eo21⟩ := Kd.R_slice HO328.out
                      (first | subst eo21 | (injection eo21 with f1_ f2_ f3_; have f4_ := f1_.symm; have f5_ := f3_.symm; clear f1_ f2_ f3_; subst f4_; subst f5_))
                      refine start_ (n := 11) (S := fun w' => w'.cell? ⟨gb325, 0, none⟩ = some (.string ((rd_T35 l0 x33_2).f0)) ∧ w'.cell? ⟨gb325, 1, none⟩ = some (.int .i64 ((rd_T35 l0 x33_2).f1))) (ds := []) #[false, false, false, false, false, false, false, false, false, false, false] (by kernel_rfl) rfl rfl ⟨(blk_cell BK325.out 0).trans rfl, (blk_cell BK325.out 1).trans rfl⟩ (fun hHeld => ?_); refine with_tabW naive_Learn.tab15 naive_Learn.bits15 (fun HT_ HW_ => ?_)
                      generalize wr.drew = w20 at HO_9 HO_10 HO328 BK325 HB hHeld ⊢
                      refine pure_ (i := 0) (N := some 52) (v := ?_) (a' := ?_) #[true, false, false, false, false, false, false, false, false, false, false] rfl rfl (any_of HT_.out (by kernel_rfl)) (fun _ _ _ h => h) (Or.inl ⟨by rfl, ?_⟩) ?_ ?_
                      rotate_left
                      · intro w'
                        go_simp
                        with_reducible rfl
                      rotate_left
                      · simp only [Act.put, List.setIfInBounds_toArray, List.set_cons_zero, List.set_cons_succ, i64_w, i32_w]
                        rfl
                      refine pure_ (i := 1) (N := some 53) (v := ?_) (a' := ?_) #[true, true, false, false, false, false, false, false, false, false, false] rfl rfl (any_of HT_.out (by kernel_rfl)) (fun _ _ _ h => h) (Or.inl ⟨by rfl, ?_⟩) ?_ ?_
                      rotate_left
                      · intro w'
                        go_simp
                        with_reducible rfl
                      rotate_left
                      · simp only [Act.put, List.setIfInBounds_toArray, List.set_cons_zero, List.set_cons_succ, i64_w, i32_w]
                        rfl
                      refine pure_ (i := 4) (N := some 56) (v := ?_) (a' := ?_) #[true, true, false, false, true, false, false, false, false, false, false] rfl rfl (any_of HT_.out (by kernel_rfl)) (fun _ _ _ h => h) (Or.inl ⟨by rfl, ?_⟩) ?_ ?_
                      rotate_left
                      · intro w'
                        go_simp
                        with_reducible rfl
                      rotate_left
                      · simp only [Act.put, List.setIfInBounds_toArray, List.set_cons_zero, List.set_cons_succ, i64_w, i32_w]
                        rfl
                      refine pure_ (i := 5) (N := some 57) (v := ?_) (a' := ?_) #[true, true, false, false, true, true, false, false, false, false, false] rfl rfl (any_of HT_.out (by kernel_rfl)) (fun _ _ _ h => h) (Or.inl ⟨by rfl, ?_⟩) ?_ ?_
                      rotate_left
                      · intro w'
                        go_simp
                        with_reducible rfl
                      rotate_left
                      · simp only [Act.put, List.setIfInBounds_toArray, List.set_cons_zero, List.set_cons_succ, i64_w, i32_w]
                        rfl
                      refine take_ (i := 6) (N := some 58) (v := ?_) (a' := ?_) #[true, true, false, false, true, true, true, false, false, false, false] rfl rfl (take_ofW HT_.out HW_.out (by kernel_rfl)) (fun _ _ _ h => h) (Or.inl ⟨by rfl, ?_⟩) hHeld ?_ ?_
                      rotate_left
                      · rintro w' ⟨s0, s1⟩
                        go_simp
                        with_reducible rfl
                      rotate_left
                      · simp only [Act.put, List.setIfInBounds_toArray, List.set_cons_zero, List.set_cons_succ, i64_w, i32_w]
                        rfl
                      refine join_ (σ := Value × Value × Value) 3 #[true, true, true, true, true, true, true, true, false, false, false] (fun s_ => [(54, s_.1), (55, s_.2.1), (59, s_.2.2)]) (fun s_ w' => (w'.cell? ⟨gb325, 0, none⟩ = some (.string ((rd_T35 l0 x33_2).f0)) ∧ w'.cell? ⟨gb325, 1, none⟩ = some (.int .i64 ((rd_T35 l0 x33_2).f1))) ∧ (Kd.N (Kd.slice 9 Kd.string) 46 w' w.heap.size (fun k_ => some k_ ≠ (s_.2.1 : Value).ownBlock ∧ some k_ ≠ (s_.2.2 : Value).ownBlock ∧ some k_ ≠ (.slice Ao19 x10_2.length co19 : Value).ownBlock ∧ k_ ≠ gb325) s_.1 y329) ∧ (Kd.N (Kd.slice 9 Kd.string) 46 w' w.heap.size (fun k_ => some k_ ≠ (s_.2.2 : Value).ownBlock ∧ some k_ ≠ (.slice Ao19 x10_2.length co19 : Value).ownBlock ∧ k_ ≠ gb325) s_.2.1 y332) ∧ (Kd.R (Kd.int .i64) 3 w' w.heap.size (fun k_ => some k_ ≠ (.slice Ao19 x10_2.length co19 : Value).ownBlock) s_.2.2 y335) ∧ (Kd.R (Kd.int .i64) 3 w' w.heap.size (fun k_ => some k_ ≠ (s_.2.2 : Value).ownBlock) (.slice Ao19 x10_2.length co19) x10_2) ∧ (w'.heap[gb325]? = some (.cells #[.string ((rd_T35 l0 x33_2).f0), .int .i64 ((rd_T35 l0 x33_2).f1)] 35 (0, 0))) ∧ (Below w.heap.size w w')) ?_ ?_
                      rotate_left
                      · intro hCont
                        refine two_ (i := 2) (j := 7) (Ni := some 54) (Nj := some 59) #[true, true, true, false, true, true, true, false, false, false, false] #[true, true, false, false, true, true, true, true, false, false, false] rfl rfl rfl rfl (two_of HT_.out (by kernel_rfl)) (by decide) (by decide) (fun K hK => ?_) (fun K hK => ?_)
                        · skip
                          refine Kd.N_lit_step (Kd.slice 9 Kd.string) _ 46 ?hg (N' := 54) ?hd (xs := ([t326] : List (List ByteArray))) (inner := [.slice Ao21 t326.length co21]) (ok := (fun k_ => some k_ ≠ (.slice Ao18 x9_2.length co18 : Value).ownBlock ∧ some k_ ≠ (.slice Ao19 x10_2.length co19 : Value).ownBlock ∧ k_ ≠ gb325)) (okp := (fun k_ => some k_ ≠ (.slice Ao18 x9_2.length co18 : Value).ownBlock ∧ some k_ ≠ (.slice Ao19 x10_2.length co19 : Value).ownBlock ∧ k_ ≠ gb325)) ?hr ?hp (fun _ hk => hk) ((show ∀ k_, w20.heap.size ≤ k_ → (fun k_ => some k_ ≠ (.slice Ao18 x9_2.length co18 : Value).ownBlock ∧ some k_ ≠ (.slice Ao19 x10_2.length co19 : Value).ownBlock ∧ k_ ≠ gb325) k_ from fun k_ hk => ⟨Kd.fresh' (Kd.N_lt (by (with_reducible repeat (first | apply Kd.N_alloc | apply Kd.N_drewN | apply Kd.N_drew)); exact HO_9.out)) k_ hk, Kd.fresh' (Kd.R_lt (by (with_reducible repeat (first | apply Kd.R_alloc | apply Kd.R_drewN | apply Kd.R_drew)); exact HO_10.out)) k_ hk, Kd.freshB (g := gb325) (o := .cells #[.string ((rd_T35 l0 x33_2).f0), .int .i64 ((rd_T35 l0 x33_2).f1)] 35 (0, 0)) (by (with_reducible repeat (first | refine blk_drewN ?_ _ | refine blk_drew ?_ | refine blk_alloc ?_ _)); exact BK325.out) k_ hk⟩) _ (Nat.le_refl _)) (Below.refl _ _) (Nat.le_refl _) (by simp) ?_; (case hd => rfl); (case hg => rfl); (case hr => first | (go_simp; done) | (go_simp; rfl)); (case hp => exact (Reps.one (show Kd.FK (Kd.slice 9 Kd.string) _ _ t326 [.slice Ao21 t326.length co21] from (Kd.FK_slice_mk (Kd.R_reads' (Kd.R_mono (ok' := (fun k_ => some k_ ≠ (.slice Ao18 x9_2.length co18 : Value).ownBlock ∧ some k_ ≠ (.slice Ao19 x10_2.length co19 : Value).ownBlock ∧ k_ ≠ gb325)) (Kd.R_types (Kd.R_apart' (Kd.R_apart' (HO328.out) (Kd.N_typed HO_9.out) (by decide)) (Kd.R_typed HO_10.out) (by decide)) BK325.out (by decide)) (fun k_ hk => ⟨hk.1.1.2, ⟨hk.1.2, hk.2⟩⟩))).2.1 (Kd.R_F (Kd.R_mono (ok' := (fun k_ => some k_ ≠ (.slice Ao18 x9_2.length co18 : Value).ownBlock ∧ some k_ ≠ (.slice Ao19 x10_2.length co19 : Value).ownBlock ∧ k_ ≠ gb325)) (Kd.R_types (Kd.R_apart' (Kd.R_apart' (HO328.out) (Kd.N_typed HO_9.out) (by decide)) (Kd.R_typed HO_10.out) (by decide)) BK325.out (by decide)) (fun k_ hk => ⟨hk.1.1.2, ⟨hk.1.2, hk.2⟩⟩))))) (Reps.none _ _)))
                          intro v330 w22 ho23 hb hg_ hnew_
                          clear hg_ hnew_
                          (first | rw [← Ny329.out] at ho23 | (simp only [Int.reduceToNat] at ho23; rw [← Ny329.out] at ho23))
                          have n0_ := Aside0.mk (Kd.N_elder' (by (with_reducible repeat (first | apply Kd.N_alloc | apply Kd.N_drewN | apply Kd.N_drew)); exact HO_9.out) (Kd.N_base ho23) hb)
                          have n1_ := Aside0.mk (Kd.R_below (by (with_reducible repeat (first | apply Kd.R_alloc | apply Kd.R_drewN | apply Kd.R_drew)); exact HO_10.out) hb)
                          have n2_ := Aside0.mk (Kd.N_lower ho23 (below_size (by repeat (first | (with_reducible first | exact HB.out | apply below_alloc | apply pw_below_drewN | apply below_drew1 | refine below_set ?_ GE325.out) | exact HB.out))))
                          have n3_ := Aside0.mk (blk_below (g := gb325) (o := .cells #[.string ((rd_T35 l0 x33_2).f0), .int .i64 ((rd_T35 l0 x33_2).f1)] 35 (0, 0)) (by (with_reducible repeat (first | refine blk_drewN ?_ _ | refine blk_drew ?_ | refine blk_alloc ?_ _)); exact BK325.out) hb)
                          have n4_ := Aside0.mk (below_step (by repeat (first | (with_reducible first | exact HB.out | apply below_alloc | apply pw_below_drewN | apply below_drew1 | refine below_set ?_ GE325.out) | exact HB.out)) hb)
                          clear HO_9
                          clear HO_10
                          clear BK325
                          clear HB
                          clear HO328
                          have HO_9 := n0_
                          have HO_10 := n1_
                          have HO331 := n2_
                          have BK325 := n3_
                          have HB := n4_
                          clear n0_ n1_ n2_ n3_ n4_
                          clear hb ho23
                          obtain ⟨Ao25, co25, eo25⟩ := Kd.N_slice HO331.out
                          (first | subst eo25 | (injection eo25 with f1_ f2_ f3_; have f4_ := f1_.symm; have f5_ := f3_.symm; clear f1_ f2_ f3_; subst f4_; subst f5_))
                          refine hK.out _ _ ⟨(blk_cell BK325.out 0).trans rfl, (blk_cell BK325.out 1).trans rfl⟩ (fun hHeld => ?_)
                          clear hK K
                          refine norm_ (a' := ?_) ?_ ?_
                          rotate_left
                          · show Act.put _ (some 54) _ = _
                            simp only [Act.put, List.setIfInBounds_toArray, List.set_cons_zero, List.set_cons_succ, i64_w, i32_w]
                            rfl
                          refine two_ (i := 3) (j := 7) (Ni := some 55) (Nj := some 59) #[true, true, true, true, true, true, true, false, false, false, false] #[true, true, true, false, true, true, true, true, false, false, false] rfl rfl rfl rfl (two_of HT_.out (by kernel_rfl)) (by decide) (by decide) (fun K hK => ?_) (fun K hK => ?_)
                          · skip
                            refine Kd.N_append_rows_step (Kd.slice 9 Kd.string) (w0 := w) w.heap.size (by rfl) (.tmp 52) (.tmp 54) 43 46 (.slice none 0 0) 24 rfl Try.underlying43 info46 rfl (by decide) (by omega) (.slice Ao18 x9_2.length co18) x9_2 y329 _ _ _ (fun k_ => some k_ ≠ (.slice Ao19 x10_2.length co19 : Value).ownBlock ∧ k_ ≠ gb325) (fun k_ => ((fun k_ => some k_ ≠ (.slice Ao19 x10_2.length co19 : Value).ownBlock ∧ k_ ≠ gb325)) k_ ∧ some k_ ≠ (.slice Ao18 x9_2.length co18 : Value).ownBlock) rfl rfl ?aO ?aR (fun _ hk => hk) ?aF ?aB ?aS ?aL ?_
                            (case aR => exact (by skip; exact Kd.N_F (Kd.N_mono (ok' := (fun k_ => ((fun k_ => some k_ ≠ (.slice Ao19 x10_2.length co19 : Value).ownBlock ∧ k_ ≠ gb325)) k_ ∧ some k_ ≠ (.slice Ao18 x9_2.length co18 : Value).ownBlock)) (HO331.out) (fun k_ hk => ⟨⟨hk.2.1, hk.2.2⟩, hk.1⟩))))
                            (case aB => exact (by repeat (first | (with_reducible first | exact HB.out | apply below_alloc | apply pw_below_drewN | apply below_drew1 | refine below_set ?_ GE325.out) | exact HB.out)))
                            (case aF => exact (fun k_ hk => ⟨Kd.fresh' (Kd.R_lt (by (with_reducible repeat (first | apply Kd.R_alloc | apply Kd.R_drewN | apply Kd.R_drew)); exact HO_10.out)) k_ hk, Kd.freshB (g := gb325) (o := .cells #[.string ((rd_T35 l0 x33_2).f0), .int .i64 ((rd_T35 l0 x33_2).f1)] 35 (0, 0)) (by (with_reducible repeat (first | refine blk_drewN ?_ _ | refine blk_drew ?_ | refine blk_alloc ?_ _)); exact BK325.out) k_ hk⟩))
                            (case aO => exact (by (with_reducible repeat (first | apply Kd.N_alloc | apply Kd.N_drewN | apply Kd.N_drew)); exact Kd.N_mono HO_9.out (fun _ hk => ⟨hk.1.1.1, hk.1.1.2⟩)))
                            (case aS => exact (below_size (by repeat (first | (with_reducible first | exact HB.out | apply below_alloc | apply pw_below_drewN | apply below_drew1 | refine below_set ?_ GE325.out) | exact HB.out))))
                            (case aL => have := LMc13.out; omega)
                            intro v333 w24 ho hb hg hat
                            rw [← Ny332.out] at ho
                            have n0_ := Aside0.mk (Kd.R_over' (by (with_reducible repeat (first | apply Kd.R_alloc | apply Kd.R_drewN | apply Kd.R_drew)); exact HO_10.out) (Kd.N_typed (by (with_reducible repeat (first | apply Kd.N_alloc | apply Kd.N_drewN | apply Kd.N_drew)); exact HO_9.out)) (by decide) hg)
                            have n1_ := Aside0.mk (blk_grown (g := gb325) (o := .cells #[.string ((rd_T35 l0 x33_2).f0), .int .i64 ((rd_T35 l0 x33_2).f1)] 35 (0, 0)) (by (with_reducible repeat (first | refine blk_drewN ?_ _ | refine blk_drew ?_ | refine blk_alloc ?_ _)); exact BK325.out) hg (Kd.N_ne HO_9.out BK325.out (by decide)))
                            have n2_ := Aside0.mk (Kd.N_afterv (ok := (fun k_ => some k_ ≠ (.slice Ao19 x10_2.length co19 : Value).ownBlock ∧ k_ ≠ gb325)) (by (with_reducible repeat (first | apply Kd.N_alloc | apply Kd.N_drewN | apply Kd.N_drew)); exact Kd.N_mono HO331.out (fun _ hk => ⟨⟨hk.2.1, hk.2.2⟩, hk.1⟩)) hg hat)
                            have n3_ := Aside0.mk (hb)
                            have n4_ := Aside0.mk (ho)
                            clear HO_10
                            clear BK325
                            clear HO331
                            clear HB
                            clear HO_9
                            have HO_10 := n0_
                            have BK325 := n1_
                            have HO331 := n2_
                            have HB := n3_
                            have HO334 := n4_
                            clear n0_ n1_ n2_ n3_ n4_
                            clear ho hb hg hat
                            refine hK.out _ _ ⟨(blk_cell BK325.out 0).trans rfl, (blk_cell BK325.out 1).trans rfl⟩ (fun hHeld => ?_)
                            clear hK K
                            refine norm_ (a' := ?_) ?_ ?_
                            rotate_left
                            · show Act.put _ (some 55) _ = _
                              simp only [Act.put, List.setIfInBounds_toArray, List.set_cons_zero, List.set_cons_succ, i64_w, i32_w]
                              rfl
                            refine one_ (i := 7) (N := some 59) #[true, true, true, true, true, true, true, true, false, false, false] rfl rfl (one_of HT_.out (by kernel_rfl)) (by decide) (fun K hK => ?_)
                            refine Kd.R_lit_step (Kd.int .i64) _ 3 ?hg (N := 59) ?hd (xs := ([(rd_T35 l0 x33_2).f1] : List Int)) (inner := [.int .i64 ((rd_T35 l0 x33_2).f1)]) (ok := fun _ => True) (okp := fun _ => True) ?hr ?hp (fun _ hk => hk) trivial (Below.refl _ _) (Nat.le_refl _) (by simp) ?_; (case hd => rfl); (case hg => rfl); (case hr => first | (go_simp; done) | (go_simp; rfl)); (case hp => exact (Reps.one (show Kd.M (Kd.int .i64) _ _ _ ((rd_T35 l0 x33_2).f1) [.int .i64 ((rd_T35 l0 x33_2).f1)] from rfl) (Reps.none _ _)))
                            intro v336 w26 ho27 hb hg_ hnew_
                            clear hg_ hnew_
                            (first | rw [← Ny335.out] at ho27 | (simp only [Int.reduceToNat] at ho27; rw [← Ny335.out] at ho27))
                            have n0_ := Aside0.mk (Kd.R_elder' (by (with_reducible repeat (first | apply Kd.R_alloc | apply Kd.R_drewN | apply Kd.R_drew)); exact HO_10.out) (Kd.R_base ho27) hb)
                            have n1_ := Aside0.mk (Kd.N_elder' (by (with_reducible repeat (first | apply Kd.N_alloc | apply Kd.N_drewN | apply Kd.N_drew)); exact HO331.out) (Kd.R_base ho27) hb)
                            have n2_ := Aside0.mk (Kd.N_elder' (by (with_reducible repeat (first | apply Kd.N_alloc | apply Kd.N_drewN | apply Kd.N_drew)); exact HO334.out) (Kd.R_base ho27) hb)
                            have n3_ := Aside0.mk (Kd.R_lower (Kd.R_new' ho27 (Kd.R_lt (by (with_reducible repeat (first | apply Kd.R_alloc | apply Kd.R_drewN | apply Kd.R_drew)); exact HO_10.out))) (below_size (by repeat (first | (with_reducible first | exact HB.out | apply below_alloc | apply pw_below_drewN | apply below_drew1 | refine below_set ?_ GE325.out) | exact HB.out))))
                            have n4_ := Aside0.mk (blk_below (g := gb325) (o := .cells #[.string ((rd_T35 l0 x33_2).f0), .int .i64 ((rd_T35 l0 x33_2).f1)] 35 (0, 0)) (by (with_reducible repeat (first | refine blk_drewN ?_ _ | refine blk_drew ?_ | refine blk_alloc ?_ _)); exact BK325.out) hb)
                            have n5_ := Aside0.mk (below_step (by repeat (first | (with_reducible first | exact HB.out | apply below_alloc | apply pw_below_drewN | apply below_drew1 | refine below_set ?_ GE325.out) | exact HB.out)) hb)
                            clear HO_10
                            clear HO331
                            clear HO334
                            clear BK325
                            clear HB
                            have HO_10 := n0_
                            have HO331 := n1_
                            have HO334 := n2_
                            have HO337 := n3_
                            have BK325 := n4_
                            have HB := n5_
                            clear n0_ n1_ n2_ n3_ n4_ n5_
                            clear hb ho27
                            refine hK.out _ _ ⟨(blk_cell BK325.out 0).trans rfl, (blk_cell BK325.out 1).trans rfl⟩ (fun hHeld => ?_)
                            clear hK K
                            refine norm_ (a' := ?_) ?_ ?_
                            rotate_left
                            · show Act.put _ (some 59) _ = _
                              simp only [Act.put, List.setIfInBounds_toArray, List.set_cons_zero, List.set_cons_succ, i64_w, i32_w]
                              rfl
                            exact norm_ (by simp only [putAll, Act.put, List.setIfInBounds_toArray, List.set_cons_zero, List.set_cons_succ]) (hCont (.slice Ao25 y329.length co25, v333, v336) _ ⟨hHeld, (by (with_reducible repeat (first | apply Kd.N_alloc | apply Kd.N_drewN | apply Kd.N_drew)); exact Kd.N_mono HO331.out (fun _ hk => ⟨hk.1.2, ⟨hk.2, ⟨hk.1.1.1, hk.1.1.2⟩⟩⟩)), (by (with_reducible repeat (first | apply Kd.N_alloc | apply Kd.N_drewN | apply Kd.N_drew)); exact Kd.N_mono HO334.out (fun _ hk => ⟨hk.2, ⟨hk.1.1, hk.1.2⟩⟩)), (by (with_reducible repeat (first | apply Kd.R_alloc | apply Kd.R_drewN | apply Kd.R_drew)); exact Kd.R_mono HO337.out (fun _ hk => hk.2)), (by (with_reducible repeat (first | apply Kd.R_alloc | apply Kd.R_drewN | apply Kd.R_drew)); exact Kd.R_mono HO_10.out (fun _ hk => hk.2)), (by (with_reducible repeat (first | refine blk_drewN ?_ _ | refine blk_drew ?_ | refine blk_alloc ?_ _)); exact BK325.out), (by repeat (first | (with_reducible first | exact HB.out | apply below_alloc | apply pw_below_drewN | apply below_drew1 | refine below_set ?_ GE325.out) | exact HB.out))⟩)
                          · skip
                            refine Kd.R_lit_step (Kd.int .i64) _ 3 ?hg (N := 59) ?hd (xs := ([(rd_T35 l0 x33_2).f1] : List Int)) (inner := [.int .i64 ((rd_T35 l0 x33_2).f1)]) (ok := fun _ => True) (okp := fun _ => True) ?hr ?hp (fun _ hk => hk) trivial (Below.refl _ _) (Nat.le_refl _) (by simp) ?_; (case hd => rfl); (case hg => rfl); (case hr => first | (go_simp; done) | (go_simp; rfl)); (case hp => exact (Reps.one (show Kd.M (Kd.int .i64) _ _ _ ((rd_T35 l0 x33_2).f1) [.int .i64 ((rd_T35 l0 x33_2).f1)] from rfl) (Reps.none _ _)))
                            intro v336 w24 ho25 hb hg_ hnew_
                            clear hg_ hnew_
                            (first | rw [← Ny335.out] at ho25 | (simp only [Int.reduceToNat] at ho25; rw [← Ny335.out] at ho25))
                            have n0_ := Aside0.mk (Kd.N_elder' (by (with_reducible repeat (first | apply Kd.N_alloc | apply Kd.N_drewN | apply Kd.N_drew)); exact HO_9.out) (Kd.R_base ho25) hb)
                            have n1_ := Aside0.mk (Kd.R_elder' (by (with_reducible repeat (first | apply Kd.R_alloc | apply Kd.R_drewN | apply Kd.R_drew)); exact HO_10.out) (Kd.R_base ho25) hb)
                            have n2_ := Aside0.mk (Kd.N_elder' (by (with_reducible repeat (first | apply Kd.N_alloc | apply Kd.N_drewN | apply Kd.N_drew)); exact HO331.out) (Kd.R_base ho25) hb)
                            have n3_ := Aside0.mk (Kd.R_lower (Kd.R_new' ho25 (Kd.R_lt (by (with_reducible repeat (first | apply Kd.R_alloc | apply Kd.R_drewN | apply Kd.R_drew)); exact HO_10.out))) (below_size (by repeat (first | (with_reducible first | exact HB.out | apply below_alloc | apply pw_below_drewN | apply below_drew1 | refine below_set ?_ GE325.out) | exact HB.out))))
                            have n4_ := Aside0.mk (blk_below (g := gb325) (o := .cells #[.string ((rd_T35 l0 x33_2).f0), .int .i64 ((rd_T35 l0 x33_2).f1)] 35 (0, 0)) (by (with_reducible repeat (first | refine blk_drewN ?_ _ | refine blk_drew ?_ | refine blk_alloc ?_ _)); exact BK325.out) hb)
                            have n5_ := Aside0.mk (below_step (by repeat (first | (with_reducible first | exact HB.out | apply below_alloc | apply pw_below_drewN | apply below_drew1 | refine below_set ?_ GE325.out) | exact HB.out)) hb)
                            clear HO_9
                            clear HO_10
                            clear HO331
                            clear BK325
                            clear HB
                            have HO_9 := n0_
                            have HO_10 := n1_
                            have HO331 := n2_
                            have HO337 := n3_
                            have BK325 := n4_
                            have HB := n5_
                            clear n0_ n1_ n2_ n3_ n4_ n5_
                            clear hb ho25
                            obtain ⟨Ao27, co27, eo27⟩ := Kd.N_slice HO331.out
                            (first | subst eo27 | (injection eo27 with f1_ f2_ f3_; have f4_ := f1_.symm; have f5_ := f3_.symm; clear f1_ f2_ f3_; subst f4_; subst f5_))
                            refine hK.out _ _ ⟨(blk_cell BK325.out 0).trans rfl, (blk_cell BK325.out 1).trans rfl⟩ (fun hHeld => ?_)
                            clear hK K
                            refine norm_ (a' := ?_) ?_ ?_
                            rotate_left
                            · show Act.put _ (some 59) _ = _
                              simp only [Act.put, List.setIfInBounds_toArray, List.set_cons_zero, List.set_cons_succ, i64_w, i32_w]
                              rfl
                            refine one_ (i := 3) (N := some 55) #[true, true, true, true, true, true, true, true, false, false, false] rfl rfl (one_of HT_.out (by kernel_rfl)) (by decide) (fun K hK => ?_)
                            refine Kd.N_append_rows_step (Kd.slice 9 Kd.string) (w0 := w) w.heap.size (by rfl) (.tmp 52) (.tmp 54) 43 46 (.slice none 0 0) 24 rfl Try.underlying43 info46 rfl (by decide) (by omega) (.slice Ao18 x9_2.length co18) x9_2 y329 _ _ _ (fun k_ => some k_ ≠ (.slice Ao19 x10_2.length co19 : Value).ownBlock ∧ some k_ ≠ (v336 : Value).ownBlock ∧ k_ ≠ gb325) (fun k_ => ((fun k_ => some k_ ≠ (.slice Ao19 x10_2.length co19 : Value).ownBlock ∧ some k_ ≠ (v336 : Value).ownBlock ∧ k_ ≠ gb325)) k_ ∧ some k_ ≠ (.slice Ao18 x9_2.length co18 : Value).ownBlock) rfl rfl ?aO ?aR (fun _ hk => hk) ?aF ?aB ?aS ?aL ?_
                            (case aR => exact (by skip; exact Kd.N_F (Kd.N_mono (ok' := (fun k_ => ((fun k_ => some k_ ≠ (.slice Ao19 x10_2.length co19 : Value).ownBlock ∧ some k_ ≠ (v336 : Value).ownBlock ∧ k_ ≠ gb325)) k_ ∧ some k_ ≠ (.slice Ao18 x9_2.length co18 : Value).ownBlock)) (HO331.out) (fun k_ hk => ⟨⟨hk.1.2.1, ⟨hk.2, hk.1.2.2⟩⟩, hk.1.1⟩))))
                            (case aB => exact (by repeat (first | (with_reducible first | exact HB.out | apply below_alloc | apply pw_below_drewN | apply below_drew1 | refine below_set ?_ GE325.out) | exact HB.out)))
                            (case aF => exact (fun k_ hk => ⟨Kd.fresh' (Kd.R_lt (by (with_reducible repeat (first | apply Kd.R_alloc | apply Kd.R_drewN | apply Kd.R_drew)); exact HO_10.out)) k_ hk, Kd.fresh' (Kd.R_lt (by (with_reducible repeat (first | apply Kd.R_alloc | apply Kd.R_drewN | apply Kd.R_drew)); exact HO337.out)) k_ hk, Kd.freshB (g := gb325) (o := .cells #[.string ((rd_T35 l0 x33_2).f0), .int .i64 ((rd_T35 l0 x33_2).f1)] 35 (0, 0)) (by (with_reducible repeat (first | refine blk_drewN ?_ _ | refine blk_drew ?_ | refine blk_alloc ?_ _)); exact BK325.out) k_ hk⟩))
                            (case aO => exact (by (with_reducible repeat (first | apply Kd.N_alloc | apply Kd.N_drewN | apply Kd.N_drew)); exact Kd.N_mono HO_9.out (fun _ hk => ⟨hk.1.1.1.1, ⟨hk.2, hk.1.1.1.2⟩⟩)))
                            (case aS => exact (below_size (by repeat (first | (with_reducible first | exact HB.out | apply below_alloc | apply pw_below_drewN | apply below_drew1 | refine below_set ?_ GE325.out) | exact HB.out))))
                            (case aL => have := LMc13.out; omega)
                            intro v333 w26 ho hb hg hat
                            rw [← Ny332.out] at ho
                            have n0_ := Aside0.mk (Kd.R_over' (by (with_reducible repeat (first | apply Kd.R_alloc | apply Kd.R_drewN | apply Kd.R_drew)); exact HO_10.out) (Kd.N_typed (by (with_reducible repeat (first | apply Kd.N_alloc | apply Kd.N_drewN | apply Kd.N_drew)); exact HO_9.out)) (by decide) hg)
                            have n1_ := Aside0.mk (blk_grown (g := gb325) (o := .cells #[.string ((rd_T35 l0 x33_2).f0), .int .i64 ((rd_T35 l0 x33_2).f1)] 35 (0, 0)) (by (with_reducible repeat (first | refine blk_drewN ?_ _ | refine blk_drew ?_ | refine blk_alloc ?_ _)); exact BK325.out) hg (Kd.N_ne HO_9.out BK325.out (by decide)))
                            have n2_ := Aside0.mk (Kd.N_afterv (ok := (fun k_ => some k_ ≠ (.slice Ao19 x10_2.length co19 : Value).ownBlock ∧ some k_ ≠ (v336 : Value).ownBlock ∧ k_ ≠ gb325)) (by (with_reducible repeat (first | apply Kd.N_alloc | apply Kd.N_drewN | apply Kd.N_drew)); exact Kd.N_mono HO331.out (fun _ hk => ⟨⟨hk.1.2.1, ⟨hk.2, hk.1.2.2⟩⟩, hk.1.1⟩)) hg hat)
                            have n3_ := Aside0.mk (Kd.R_over' (by (with_reducible repeat (first | apply Kd.R_alloc | apply Kd.R_drewN | apply Kd.R_drew)); exact HO337.out) (Kd.N_typed (by (with_reducible repeat (first | apply Kd.N_alloc | apply Kd.N_drewN | apply Kd.N_drew)); exact HO_9.out)) (by decide) hg)
                            have n4_ := Aside0.mk (hb)
                            have n5_ := Aside0.mk (ho)
                            clear HO_10
                            clear BK325
                            clear HO331
                            clear HO337
                            clear HB
                            clear HO_9
                            have HO_10 := n0_
                            have BK325 := n1_
                            have HO331 := n2_
                            have HO337 := n3_
                            have HB := n4_
                            have HO334 := n5_
                            clear n0_ n1_ n2_ n3_ n4_ n5_
                            clear ho hb hg hat
                            refine hK.out _ _ ⟨(blk_cell BK325.out 0).trans rfl, (blk_cell BK325.out 1).trans rfl⟩ (fun hHeld => ?_)
                            clear hK K
                            refine norm_ (a' := ?_) ?_ ?_
                            rotate_left
                            · show Act.put _ (some 55) _ = _
                              simp only [Act.put, List.setIfInBounds_toArray, List.set_cons_zero, List.set_cons_succ, i64_w, i32_w]
                              rfl
                            exact norm_ (by simp only [putAll, Act.put, List.setIfInBounds_toArray, List.set_cons_zero, List.set_cons_succ]) (hCont (.slice Ao27 y329.length co27, v333, v336) _ ⟨hHeld, (by (with_reducible repeat (first | apply Kd.N_alloc | apply Kd.N_drewN | apply Kd.N_drew)); exact Kd.N_mono HO331.out (fun _ hk => ⟨hk.2, ⟨hk.1.2.1, ⟨hk.1.1, hk.1.2.2⟩⟩⟩)), (by (with_reducible repeat (first | apply Kd.N_alloc | apply Kd.N_drewN | apply Kd.N_drew)); exact Kd.N_mono HO334.out (fun _ hk => ⟨hk.2.1, ⟨hk.1, hk.2.2⟩⟩)), (by (with_reducible repeat (first | apply Kd.R_alloc | apply Kd.R_drewN | apply Kd.R_drew)); exact Kd.R_mono HO337.out (fun _ hk => hk.2)), (by (with_reducible repeat (first | apply Kd.R_alloc | apply Kd.R_drewN | apply Kd.R_drew)); exact Kd.R_mono HO_10.out (fun _ hk => hk.2)), (by (with_reducible repeat (first | refine blk_drewN ?_ _ | refine blk_drew ?_ | refine blk_alloc ?_ _)); exact BK325.out), (by repeat (first | (with_reducible first | exact HB.out | apply below_alloc | apply pw_below_drewN | apply below_drew1 | refine below_set ?_ GE325.out) | exact HB.out))⟩)
                        · skip
                          refine Kd.R_lit_step (Kd.int .i64) _ 3 ?hg (N := 59) ?hd (xs := ([(rd_T35 l0 x33_2).f1] : List Int)) (inner := [.int .i64 ((rd_T35 l0 x33_2).f1)]) (ok := fun _ => True) (okp := fun _ => True) ?hr ?hp (fun _ hk => hk) trivial (Below.refl _ _) (Nat.le_refl _) (by simp) ?_; (case hd => rfl); (case hg => rfl); (case hr => first | (go_simp; done) | (go_simp; rfl)); (case hp => exact (Reps.one (show Kd.M (Kd.int .i64) _ _ _ ((rd_T35 l0 x33_2).f1) [.int .i64 ((rd_T35 l0 x33_2).f1)] from rfl) (Reps.none _ _)))
                          intro v336 w21 ho22 hb hg_ hnew_
                          clear hg_ hnew_
                          (first | rw [← Ny335.out] at ho22 | (simp only [Int.reduceToNat] at ho22; rw [← Ny335.out] at ho22))
                          have n0_ := Aside0.mk (Kd.N_elder' (by (with_reducible repeat (first | apply Kd.N_alloc | apply Kd.N_drewN | apply Kd.N_drew)); exact HO_9.out) (Kd.R_base ho22) hb)
                          have n1_ := Aside0.mk (Kd.R_elder' (by (with_reducible repeat (first | apply Kd.R_alloc | apply Kd.R_drewN | apply Kd.R_drew)); exact HO_10.out) (Kd.R_base ho22) hb)
                          have n2_ := Aside0.mk (Kd.R_below (by (with_reducible repeat (first | apply Kd.R_alloc | apply Kd.R_drewN | apply Kd.R_drew)); exact HO328.out) hb)
                          have n3_ := Aside0.mk (Kd.R_lower (Kd.R_new' ho22 (Kd.R_lt (by (with_reducible repeat (first | apply Kd.R_alloc | apply Kd.R_drewN | apply Kd.R_drew)); exact HO_10.out))) (below_size (by repeat (first | (with_reducible first | exact HB.out | apply below_alloc | apply pw_below_drewN | apply below_drew1 | refine below_set ?_ GE325.out) | exact HB.out))))
                          have n4_ := Aside0.mk (blk_below (g := gb325) (o := .cells #[.string ((rd_T35 l0 x33_2).f0), .int .i64 ((rd_T35 l0 x33_2).f1)] 35 (0, 0)) (by (with_reducible repeat (first | refine blk_drewN ?_ _ | refine blk_drew ?_ | refine blk_alloc ?_ _)); exact BK325.out) hb)
                          have n5_ := Aside0.mk (below_step (by repeat (first | (with_reducible first | exact HB.out | apply below_alloc | apply pw_below_drewN | apply below_drew1 | refine below_set ?_ GE325.out) | exact HB.out)) hb)
                          clear HO_9
                          clear HO_10
                          clear HO328
                          clear BK325
                          clear HB
                          have HO_9 := n0_
                          have HO_10 := n1_
                          have HO328 := n2_
                          have HO337 := n3_
                          have BK325 := n4_
                          have HB := n5_
                          clear n0_ n1_ n2_ n3_ n4_ n5_
                          clear hb ho22
                          obtain ⟨Ao23, co23, eo23⟩ := Kd.R_slice HO328.out
                          (first | subst eo23 | (injection eo23 with f1_ f2_ f3_; have f4_ := f1_.symm; have f5_ := f3_.symm; clear f1_ f2_ f3_; subst f4_; subst f5_))
                          refine hK.out _ _ ⟨(blk_cell BK325.out 0).trans rfl, (blk_cell BK325.out 1).trans rfl⟩ (fun hHeld => ?_)
                          clear hK K
                          refine norm_ (a' := ?_) ?_ ?_
                          rotate_left
                          · show Act.put _ (some 59) _ = _
                            simp only [Act.put, List.setIfInBounds_toArray, List.set_cons_zero, List.set_cons_succ, i64_w, i32_w]
                            rfl
                          refine one_ (i := 2) (N := some 54) #[true, true, true, false, true, true, true, true, false, false, false] rfl rfl (one_of HT_.out (by kernel_rfl)) (by decide) (fun K hK => ?_)
                          refine Kd.N_lit_step (Kd.slice 9 Kd.string) _ 46 ?hg (N' := 54) ?hd (xs := ([t326] : List (List ByteArray))) (inner := [.slice Ao23 t326.length co23]) (ok := (fun k_ => some k_ ≠ (.slice Ao18 x9_2.length co18 : Value).ownBlock ∧ some k_ ≠ (.slice Ao19 x10_2.length co19 : Value).ownBlock ∧ some k_ ≠ (v336 : Value).ownBlock ∧ k_ ≠ gb325)) (okp := (fun k_ => some k_ ≠ (.slice Ao18 x9_2.length co18 : Value).ownBlock ∧ some k_ ≠ (.slice Ao19 x10_2.length co19 : Value).ownBlock ∧ some k_ ≠ (v336 : Value).ownBlock ∧ k_ ≠ gb325)) ?hr ?hp (fun _ hk => hk) ((show ∀ k_, w21.heap.size ≤ k_ → (fun k_ => some k_ ≠ (.slice Ao18 x9_2.length co18 : Value).ownBlock ∧ some k_ ≠ (.slice Ao19 x10_2.length co19 : Value).ownBlock ∧ some k_ ≠ (v336 : Value).ownBlock ∧ k_ ≠ gb325) k_ from fun k_ hk => ⟨Kd.fresh' (Kd.N_lt (by (with_reducible repeat (first | apply Kd.N_alloc | apply Kd.N_drewN | apply Kd.N_drew)); exact HO_9.out)) k_ hk, Kd.fresh' (Kd.R_lt (by (with_reducible repeat (first | apply Kd.R_alloc | apply Kd.R_drewN | apply Kd.R_drew)); exact HO_10.out)) k_ hk, Kd.fresh' (Kd.R_lt (by (with_reducible repeat (first | apply Kd.R_alloc | apply Kd.R_drewN | apply Kd.R_drew)); exact HO337.out)) k_ hk, Kd.freshB (g := gb325) (o := .cells #[.string ((rd_T35 l0 x33_2).f0), .int .i64 ((rd_T35 l0 x33_2).f1)] 35 (0, 0)) (by (with_reducible repeat (first | refine blk_drewN ?_ _ | refine blk_drew ?_ | refine blk_alloc ?_ _)); exact BK325.out) k_ hk⟩) _ (Nat.le_refl _)) (Below.refl _ _) (Nat.le_refl _) (by simp) ?_; (case hd => rfl); (case hg => rfl); (case hr => first | (go_simp; done) | (go_simp; rfl)); (case hp => exact (Reps.one (show Kd.FK (Kd.slice 9 Kd.string) _ _ t326 [.slice Ao23 t326.length co23] from (Kd.FK_slice_mk (Kd.R_reads' (Kd.R_mono (ok' := (fun k_ => some k_ ≠ (.slice Ao18 x9_2.length co18 : Value).ownBlock ∧ some k_ ≠ (.slice Ao19 x10_2.length co19 : Value).ownBlock ∧ some k_ ≠ (v336 : Value).ownBlock ∧ k_ ≠ gb325)) (Kd.R_types (Kd.R_apart' (Kd.R_apart' (Kd.R_apart' (HO328.out) (Kd.N_typed HO_9.out) (by decide)) (Kd.R_typed HO_10.out) (by decide)) (Kd.R_typed HO337.out) (by decide)) BK325.out (by decide)) (fun k_ hk => ⟨hk.1.1.1.2, ⟨hk.1.1.2, ⟨hk.1.2, hk.2⟩⟩⟩))).2.1 (Kd.R_F (Kd.R_mono (ok' := (fun k_ => some k_ ≠ (.slice Ao18 x9_2.length co18 : Value).ownBlock ∧ some k_ ≠ (.slice Ao19 x10_2.length co19 : Value).ownBlock ∧ some k_ ≠ (v336 : Value).ownBlock ∧ k_ ≠ gb325)) (Kd.R_types (Kd.R_apart' (Kd.R_apart' (Kd.R_apart' (HO328.out) (Kd.N_typed HO_9.out) (by decide)) (Kd.R_typed HO_10.out) (by decide)) (Kd.R_typed HO337.out) (by decide)) BK325.out (by decide)) (fun k_ hk => ⟨hk.1.1.1.2, ⟨hk.1.1.2, ⟨hk.1.2, hk.2⟩⟩⟩))))) (Reps.none _ _)))
                          intro v330 w24 ho25 hb hg_ hnew_
                          clear hg_ hnew_
                          (first | rw [← Ny329.out] at ho25 | (simp only [Int.reduceToNat] at ho25; rw [← Ny329.out] at ho25))
                          have n0_ := Aside0.mk (Kd.N_elder' (by (with_reducible repeat (first | apply Kd.N_alloc | apply Kd.N_drewN | apply Kd.N_drew)); exact HO_9.out) (Kd.N_base ho25) hb)
                          have n1_ := Aside0.mk (Kd.R_below (by (with_reducible repeat (first | apply Kd.R_alloc | apply Kd.R_drewN | apply Kd.R_drew)); exact HO_10.out) hb)
                          have n2_ := Aside0.mk (Kd.R_below (by (with_reducible repeat (first | apply Kd.R_alloc | apply Kd.R_drewN | apply Kd.R_drew)); exact HO337.out) hb)
                          have n3_ := Aside0.mk (Kd.N_lower ho25 (below_size (by repeat (first | (with_reducible first | exact HB.out | apply below_alloc | apply pw_below_drewN | apply below_drew1 | refine below_set ?_ GE325.out) | exact HB.out))))
                          have n4_ := Aside0.mk (blk_below (g := gb325) (o := .cells #[.string ((rd_T35 l0 x33_2).f0), .int .i64 ((rd_T35 l0 x33_2).f1)] 35 (0, 0)) (by (with_reducible repeat (first | refine blk_drewN ?_ _ | refine blk_drew ?_ | refine blk_alloc ?_ _)); exact BK325.out) hb)
                          have n5_ := Aside0.mk (below_step (by repeat (first | (with_reducible first | exact HB.out | apply below_alloc | apply pw_below_drewN | apply below_drew1 | refine below_set ?_ GE325.out) | exact HB.out)) hb)
                          clear HO_9
                          clear HO_10
                          clear HO337
                          clear BK325
                          clear HB
                          clear HO328
                          have HO_9 := n0_
                          have HO_10 := n1_
                          have HO337 := n2_
                          have HO331 := n3_
                          have BK325 := n4_
                          have HB := n5_
                          clear n0_ n1_ n2_ n3_ n4_ n5_
                          clear hb ho25
                          obtain ⟨Ao27, co27, eo27⟩ := Kd.N_slice HO331.out
                          (first | subst eo27 | (injection eo27 with f1_ f2_ f3_; have f4_ := f1_.symm; have f5_ := f3_.symm; clear f1_ f2_ f3_; subst f4_; subst f5_))
                          refine hK.out _ _ ⟨(blk_cell BK325.out 0).trans rfl, (blk_cell BK325.out 1).trans rfl⟩ (fun hHeld => ?_)
                          clear hK K
                          refine norm_ (a' := ?_) ?_ ?_
                          rotate_left
                          · show Act.put _ (some 54) _ = _
                            simp only [Act.put, List.setIfInBounds_toArray, List.set_cons_zero, List.set_cons_succ, i64_w, i32_w]
                            rfl
                          refine one_ (i := 3) (N := some 55) #[true, true, true, true, true, true, true, true, false, false, false] rfl rfl (one_of HT_.out (by kernel_rfl)) (by decide) (fun K hK => ?_)
                          refine Kd.N_append_rows_step (Kd.slice 9 Kd.string) (w0 := w) w.heap.size (by rfl) (.tmp 52) (.tmp 54) 43 46 (.slice none 0 0) 24 rfl Try.underlying43 info46 rfl (by decide) (by omega) (.slice Ao18 x9_2.length co18) x9_2 y329 _ _ _ (fun k_ => some k_ ≠ (.slice Ao19 x10_2.length co19 : Value).ownBlock ∧ some k_ ≠ (v336 : Value).ownBlock ∧ k_ ≠ gb325) (fun k_ => ((fun k_ => some k_ ≠ (.slice Ao19 x10_2.length co19 : Value).ownBlock ∧ some k_ ≠ (v336 : Value).ownBlock ∧ k_ ≠ gb325)) k_ ∧ some k_ ≠ (.slice Ao18 x9_2.length co18 : Value).ownBlock) rfl rfl ?aO ?aR (fun _ hk => hk) ?aF ?aB ?aS ?aL ?_
                          (case aR => exact (by skip; exact Kd.N_F (Kd.N_mono (ok' := (fun k_ => ((fun k_ => some k_ ≠ (.slice Ao19 x10_2.length co19 : Value).ownBlock ∧ some k_ ≠ (v336 : Value).ownBlock ∧ k_ ≠ gb325)) k_ ∧ some k_ ≠ (.slice Ao18 x9_2.length co18 : Value).ownBlock)) (HO331.out) (fun k_ hk => ⟨⟨hk.2.1, ⟨hk.2.2.1, hk.2.2.2⟩⟩, hk.1⟩))))
                          (case aB => exact (by repeat (first | (with_reducible first | exact HB.out | apply below_alloc | apply pw_below_drewN | apply below_drew1 | refine below_set ?_ GE325.out) | exact HB.out)))
                          (case aF => exact (fun k_ hk => ⟨Kd.fresh' (Kd.R_lt (by (with_reducible repeat (first | apply Kd.R_alloc | apply Kd.R_drewN | apply Kd.R_drew)); exact HO_10.out)) k_ hk, Kd.fresh' (Kd.R_lt (by (with_reducible repeat (first | apply Kd.R_alloc | apply Kd.R_drewN | apply Kd.R_drew)); exact HO337.out)) k_ hk, Kd.freshB (g := gb325) (o := .cells #[.string ((rd_T35 l0 x33_2).f0), .int .i64 ((rd_T35 l0 x33_2).f1)] 35 (0, 0)) (by (with_reducible repeat (first | refine blk_drewN ?_ _ | refine blk_drew ?_ | refine blk_alloc ?_ _)); exact BK325.out) k_ hk⟩))
                          (case aO => exact (by (with_reducible repeat (first | apply Kd.N_alloc | apply Kd.N_drewN | apply Kd.N_drew)); exact Kd.N_mono HO_9.out (fun _ hk => ⟨hk.1.1.1.1, ⟨hk.1.2, hk.1.1.1.2⟩⟩)))
                          (case aS => exact (below_size (by repeat (first | (with_reducible first | exact HB.out | apply below_alloc | apply pw_below_drewN | apply below_drew1 | refine below_set ?_ GE325.out) | exact HB.out))))
                          (case aL => have := LMc13.out; omega)
                          intro v333 w26 ho hb hg hat
                          rw [← Ny332.out] at ho
                          have n0_ := Aside0.mk (Kd.R_over' (by (with_reducible repeat (first | apply Kd.R_alloc | apply Kd.R_drewN | apply Kd.R_drew)); exact HO_10.out) (Kd.N_typed (by (with_reducible repeat (first | apply Kd.N_alloc | apply Kd.N_drewN | apply Kd.N_drew)); exact HO_9.out)) (by decide) hg)
                          have n1_ := Aside0.mk (blk_grown (g := gb325) (o := .cells #[.string ((rd_T35 l0 x33_2).f0), .int .i64 ((rd_T35 l0 x33_2).f1)] 35 (0, 0)) (by (with_reducible repeat (first | refine blk_drewN ?_ _ | refine blk_drew ?_ | refine blk_alloc ?_ _)); exact BK325.out) hg (Kd.N_ne HO_9.out BK325.out (by decide)))
                          have n2_ := Aside0.mk (Kd.R_over' (by (with_reducible repeat (first | apply Kd.R_alloc | apply Kd.R_drewN | apply Kd.R_drew)); exact HO337.out) (Kd.N_typed (by (with_reducible repeat (first | apply Kd.N_alloc | apply Kd.N_drewN | apply Kd.N_drew)); exact HO_9.out)) (by decide) hg)
                          have n3_ := Aside0.mk (Kd.N_afterv (ok := (fun k_ => some k_ ≠ (.slice Ao19 x10_2.length co19 : Value).ownBlock ∧ some k_ ≠ (v336 : Value).ownBlock ∧ k_ ≠ gb325)) (by (with_reducible repeat (first | apply Kd.N_alloc | apply Kd.N_drewN | apply Kd.N_drew)); exact Kd.N_mono HO331.out (fun _ hk => ⟨⟨hk.2.1, ⟨hk.2.2.1, hk.2.2.2⟩⟩, hk.1⟩)) hg hat)
                          have n4_ := Aside0.mk (hb)
                          have n5_ := Aside0.mk (ho)
                          clear HO_10
                          clear BK325
                          clear HO337
                          clear HO331
                          clear HB
                          clear HO_9
                          have HO_10 := n0_
                          have BK325 := n1_
                          have HO337 := n2_
                          have HO331 := n3_
                          have HB := n4_
                          have HO334 := n5_
                          clear n0_ n1_ n2_ n3_ n4_ n5_
                          clear ho hb hg hat
                          refine hK.out _ _ ⟨(blk_cell BK325.out 0).trans rfl, (blk_cell BK325.out 1).trans rfl⟩ (fun hHeld => ?_)
                          clear hK K
                          refine norm_ (a' := ?_) ?_ ?_
                          rotate_left
                          · show Act.put _ (some 55) _ = _
                            simp only [Act.put, List.setIfInBounds_toArray, List.set_cons_zero, List.set_cons_succ, i64_w, i32_w]
                            rfl
                          exact norm_ (by simp only [putAll, Act.put, List.setIfInBounds_toArray, List.set_cons_zero, List.set_cons_succ]) (hCont (.slice Ao27 y329.length co27, v333, v336) _ ⟨hHeld, (by (with_reducible repeat (first | apply Kd.N_alloc | apply Kd.N_drewN | apply Kd.N_drew)); exact Kd.N_mono HO331.out (fun _ hk => ⟨hk.2, ⟨hk.1.2.1, ⟨hk.1.1, hk.1.2.2⟩⟩⟩)), (by (with_reducible repeat (first | apply Kd.N_alloc | apply Kd.N_drewN | apply Kd.N_drew)); exact Kd.N_mono HO334.out (fun _ hk => ⟨hk.2.1, ⟨hk.1, hk.2.2⟩⟩)), (by (with_reducible repeat (first | apply Kd.R_alloc | apply Kd.R_drewN | apply Kd.R_drew)); exact Kd.R_mono HO337.out (fun _ hk => hk.2)), (by (with_reducible repeat (first | apply Kd.R_alloc | apply Kd.R_drewN | apply Kd.R_drew)); exact Kd.R_mono HO_10.out (fun _ hk => hk.2)), (by (with_reducible repeat (first | refine blk_drewN ?_ _ | refine blk_drew ?_ | refine blk_alloc ?_ _)); exact BK325.out), (by repeat (first | (with_reducible first | exact HB.out | apply below_alloc | apply pw_below_drewN | apply below_drew1 | refine below_set ?_ GE325.out) | exact HB.out))⟩)
                      rintro ⟨v330, v333, v336⟩ w28 ⟨hS_, h0_, h1_, h2_, h3_, h4_, h5_⟩
                      have n0_ : Aside0 (Kd.N (Kd.slice 9 Kd.string) 46 w28 w.heap.size (fun k_ => some k_ ≠ (v333 : Value).ownBlock ∧ some k_ ≠ (v336 : Value).ownBlock ∧ some k_ ≠ (.slice Ao19 x10_2.length co19 : Value).ownBlock ∧ k_ ≠ gb325) v330 y329) := ⟨h0_⟩
                      have n1_ : Aside0 (Kd.N (Kd.slice 9 Kd.string) 46 w28 w.heap.size (fun k_ => some k_ ≠ (v336 : Value).ownBlock ∧ some k_ ≠ (.slice Ao19 x10_2.length co19 : Value).ownBlock ∧ k_ ≠ gb325) v333 y332) := ⟨h1_⟩
                      have n2_ : Aside0 (Kd.R (Kd.int .i64) 3 w28 w.heap.size (fun k_ => some k_ ≠ (.slice Ao19 x10_2.length co19 : Value).ownBlock) v336 y335) := ⟨h2_⟩
                      have n3_ : Aside0 (Kd.R (Kd.int .i64) 3 w28 w.heap.size (fun k_ => some k_ ≠ (v336 : Value).ownBlock) (.slice Ao19 x10_2.length co19) x10_2) := ⟨h3_⟩
                      have n4_ : Aside0 (w28.heap[gb325]? = some (.cells #[.string ((rd_T35 l0 x33_2).f0), .int .i64 ((rd_T35 l0 x33_2).f1)] 35 (0, 0))) := ⟨h4_⟩
                      have n5_ : Aside0 (Below w.heap.size w w28) := ⟨h5_⟩
                      clear HO_9
                      clear HO_10
                      clear HO328
                      clear BK325
                      clear HB
                      clear h0_ h1_ h2_ h3_ h4_ h5_
                      have HO331 := n0_
                      have HO334 := n1_
                      have HO337 := n2_
                      have HO_10 := n3_
                      have BK325 := n4_
                      have HB := n5_
                      clear n0_ n1_ n2_ n3_ n4_ n5_
                      have hHeld : w28.cell? ⟨gb325, 0, none⟩ = some (.string ((rd_T35 l0 x33_2).f0)) ∧ w28.cell? ⟨gb325, 1, none⟩ = some (.int .i64 ((rd_T35 l0 x33_2).f1)) := hS_
                      obtain ⟨Ao30, co30, eo30⟩ := Kd.R_slice HO337.out
                      (first | subst eo30 | (injection eo30 with f1_ f2_ f3_; have f4_ := f1_.symm; have f5_ := f3_.symm; clear f1_ f2_ f3_; subst f4_; subst f5_))
                      refine norm_ (a' := ?_) ?_ ?_
                      rotate_left
                      · simp only [putAll, Act.put, List.setIfInBounds_toArray, List.set_cons_zero, List.set_cons_succ]
                        rfl
                      refine one_ (i := 8) (N := some 60) #[true, true, true, true, true, true, true, true, true, false, false] rfl rfl (one_of HT_.out (by kernel_rfl)) (by decide) (fun K hK => ?_)
                      refine Kd.R_append_rows_step (Kd.int .i64) (w0 := w) w.heap.size (by rfl) (.tmp 56) (.tmp 59) 31 3 (.int .i64 0) 8 rfl Try.underlying31 info3 rfl (by decide) (by omega) (.slice Ao19 x10_2.length co19) x10_2 y335 _ _ _ (fun k_ => some k_ ≠ (.slice Ao30 y335.length co30 : Value).ownBlock) (fun _ => False) rfl rfl ?aO ?aR (fun _ _ h => h) (fun _ h => h.elim) ?aF ?aB ?aS ?aL ?_
                      (case aR => repeat (first | exact (Kd.R_reads' HO337.out).2.2 | (with_reducible refine Kd.C_alloc ?_ _) | (with_reducible refine Kd.C_drewN ?_ _) | (with_reducible refine Kd.C_drew ?_)))
                      (case aB => exact (by repeat (first | (with_reducible first | exact HB.out | apply below_alloc | apply pw_below_drewN | apply below_drew1 | refine below_set ?_ GE325.out) | exact HB.out)))
                      (case aF => exact (fun k_ hk => Kd.fresh' (Kd.R_lt (by (with_reducible repeat (first | apply Kd.R_alloc | apply Kd.R_drewN | apply Kd.R_drew)); exact HO337.out)) k_ hk))
                      (case aO => exact (by (with_reducible repeat (first | apply Kd.R_alloc | apply Kd.R_drewN | apply Kd.R_drew)); exact HO_10.out))
                      (case aS => exact (below_size (by repeat (first | (with_reducible first | exact HB.out | apply below_alloc | apply pw_below_drewN | apply below_drew1 | refine below_set ?_ GE325.out) | exact HB.out))))
                      (case aL => have := LMc14.out; omega)
                      intro v339 w29 ho hb hg hat
                      rw [← Ny338.out] at ho
                      have n0_ := Aside0.mk (blk_grown (g := gb325) (o := .cells #[.string ((rd_T35 l0 x33_2).f0), .int .i64 ((rd_T35 l0 x33_2).f1)] 35 (0, 0)) (by (with_reducible repeat (first | refine blk_drewN ?_ _ | refine blk_drew ?_ | refine blk_alloc ?_ _)); exact BK325.out) hg (Kd.R_ne HO_10.out BK325.out (by decide)))
                      have n1_ := Aside0.mk (Kd.N_afterv (ok := (fun k_ => some k_ ≠ (v333 : Value).ownBlock ∧ some k_ ≠ (.slice Ao30 y335.length co30 : Value).ownBlock ∧ k_ ≠ gb325)) (by (with_reducible repeat (first | apply Kd.N_alloc | apply Kd.N_drewN | apply Kd.N_drew)); exact Kd.N_mono HO331.out (fun _ hk => ⟨⟨hk.1, ⟨hk.2.1, hk.2.2.2⟩⟩, hk.2.2.1⟩)) hg hat)
                      have n2_ := Aside0.mk (Kd.N_afterv (ok := (fun k_ => some k_ ≠ (.slice Ao30 y335.length co30 : Value).ownBlock ∧ k_ ≠ gb325)) (by (with_reducible repeat (first | apply Kd.N_alloc | apply Kd.N_drewN | apply Kd.N_drew)); exact Kd.N_mono HO334.out (fun _ hk => ⟨⟨hk.1, hk.2.2⟩, hk.2.1⟩)) hg hat)
                      have n3_ := Aside0.mk (Kd.R_after (ok := (fun _ => True)) (by (with_reducible repeat (first | apply Kd.R_alloc | apply Kd.R_drewN | apply Kd.R_drew)); exact Kd.R_mono HO337.out (fun _ hk => ⟨trivial, hk⟩)) hg hat)
                      have n4_ := Aside0.mk (hb)
                      have n5_ := Aside0.mk (ho)
                      clear BK325
                      clear HO331
                      clear HO334
                      clear HO337
                      clear HB
                      clear HO_10
                      have BK325 := n0_
                      have HO331 := n1_
                      have HO334 := n2_
                      have HO337 := n3_
                      have HB := n4_
                      have HO340 := n5_
                      clear n0_ n1_ n2_ n3_ n4_ n5_
                      clear ho hb hg hat
                      refine hK.out _ _ ⟨(blk_cell BK325.out 0).trans rfl, (blk_cell BK325.out 1).trans rfl⟩ (fun hHeld => ?_)
                      clear hK K
                      refine norm_ (a' := ?_) ?_ ?_
                      rotate_left
                      · show Act.put _ (some 60) _ = _
                        simp only [Act.put, List.setIfInBounds_toArray, List.set_cons_zero, List.set_cons_succ, i64_w, i32_w]
                        rfl
                      refine pure_ (i := 9) (N := some 9) (v := ?_) (a' := ?_) #[true, true, true, true, true, true, true, true, true, true, false] rfl rfl (any_of HT_.out (by kernel_rfl)) (fun _ _ _ h => h) (Or.inl ⟨by rfl, ?_⟩) ?_ ?_
                      rotate_left
                      · intro w'
                        go_simp
                        with_reducible rfl
                      rotate_left
                      · simp only [Act.put, List.setIfInBounds_toArray, List.set_cons_zero, List.set_cons_succ, i64_w, i32_w]
                        rfl
                      refine pure_ (i := 10) (N := some 10) (v := ?_) (a' := ?_) #[true, true, true, true, true, true, true, true, true, true, true] rfl rfl (any_of HT_.out (by kernel_rfl)) (fun _ _ _ h => h) (Or.inl ⟨by rfl, ?_⟩) ?_ ?_
                      rotate_left
                      · intro w'
                        go_simp
                        with_reducible rfl
                      rotate_left
                      · simp only [Act.put, List.setIfInBounds_toArray, List.set_cons_zero, List.set_cons_succ, i64_w, i32_w]
                        rfl
                      refine done_ (done_of HT_.out (by kernel_rfl)) ?_
                      try go_wp2
                      go_roundg k2
                      case measure => have := HJ4.out; have := HK2.out; omega
                      case rel => exact ⟨(y332), (y338), (wrap64 (x33_2 + 1)), (by first | rfl | (simp; done) | (simp [*]; done)), H', ⟨by have := HJ4.out; have := HK2.out; omega⟩, ⟨by (with_reducible repeat (first | apply Kd.N_alloc | apply Kd.N_drewN | apply Kd.N_drew)); exact Kd.N_mono HO334.out (fun _ hk => hk.2)⟩, ⟨by (with_reducible repeat (first | apply Kd.R_alloc | apply Kd.R_drewN | apply Kd.R_drew)); exact Kd.R_mono HO340.out (fun _ hk => trivial)⟩, ⟨by repeat (first | (with_reducible first | exact HB.out | apply below_alloc | apply pw_below_drewN | apply below_drew1 | refine below_set ?_ GE325.out) | exact HB.out)⟩⟩
                    · rw [if_neg c14] at H
                      exact absurd H (by simp)
                  · rw [if_neg c13] at H
                    exact absurd H (by simp)
                · rw [if_neg c11] at H
                  exact absurd H (by simp)
              · rw [if_neg c10] at H
                exact absurd H (by simp)
            · rw [if_neg c9] at H
              have c9b0 : decide (x33_2 < (l0.length : Int)) = false := decide_eq_false c9
              clear c9
              have H' := Aside0.mk H
              clear H
              go_wp2
              go_loopg [16] k2 (fun kq v16 w' => ∃ (x9_3 : List (List ByteArray)) (x16_3 : List (S45)), Aside0 (naive_Learn.l1 kq a1 a2 x9_3 x10_2 x16_3 = some r) ∧ Aside0 (kq ≤ k2) ∧ Aside0 (Kd.N (Kd.slice 9 Kd.string) 46 w' w.heap.size (fun k_ => some k_ ≠ (u10 : Value).ownBlock ∧ some k_ ≠ (v16 : Value).ownBlock) u9 x9_3) ∧ Aside0 (Kd.R (Kd.int .i64) 3 w' w.heap.size (fun _ => True) u10 x10_2) ∧ Aside0 (Kd.R k45 45 w' w.heap.size (fun _ => True) v16 x16_3) ∧ Aside0 (Below w.heap.size w w'))
              case atStart => exact ⟨(x9_2), (([] : List (S45))), H', ⟨Nat.le_refl _⟩, ⟨by (with_reducible repeat (first | apply Kd.N_alloc | apply Kd.N_drewN | apply Kd.N_drew)); exact Kd.N_mono HO_9.out (fun _ hk => ⟨hk, (by simp [Value.ownBlock])⟩)⟩, ⟨by (with_reducible repeat (first | apply Kd.R_alloc | apply Kd.R_drewN | apply Kd.R_drew)); exact HO_10.out⟩, ⟨by first | exact Kd.R_nil _ _ _ _ _ | exact Kd.N_nil _ _ _ _ _ | exact Kd.V_nil _ _ _ _ _ | exact Kd.Q_nil _ _ _ _ _ | exact Kd.S_nil _ _ _ _ _⟩, ⟨by repeat (first | (with_reducible first | exact HB.out | apply below_alloc | apply pw_below_drewN | apply below_drew1) | exact HB.out)⟩⟩
              case round =>
                clear H'
                try clear c1
                try clear c2
                try clear p2
                try clear c3
                try clear p3
                try clear q3
                try clear hx3
                try clear c4
                try clear p6
                try clear c7
                try clear c7b0
                try clear c7b1
                try clear c8
                try clear c9
                try clear c9b0
                try clear c10
                try clear c10b0
                try clear c11
                try clear c11b0
                try clear c13
                try clear c14
                try clear c22
                try clear hcz16_0
                try clear hcz16_1
                try clear hfz16_0
                try clear hfz16_1
                try clear hx324_0
                try clear hx324_1
                try clear p2
                try clear p324
                try clear q324
                obtain ⟨x9_3, x16_3, HA, HK3, HO_9, HO_10, HO_16, HB⟩ := hrel
                cases gk with
                | zero => exact absurd HA.out (by simp [naive_Learn.l1])
                | succ k3 =>
                  have H := HA.out
                  clear HA
                  simp only [naive_Learn.l1] at H
                  by_cases c31 : (x16_3.length : Int) < a1
                  · rw [if_pos c31] at H
                    have c31b0 : decide ((x16_3.length : Int) < a1) = true := decide_eq_true c31
                    clear c31
                    replace H := Option.bind_eq_some_iff.mp H
                    obtain ⟨⟨t341, t342, t343⟩, A320, H⟩ := H
                    replace H : (if t343 < a2 then (some x16_3) else ((strings_Clone.f t341).bind fun t345 => ((strings_Clone.f t342).bind fun t346 => ((some (([(⟨t345, t346⟩ : S45)] : List (S45)) : List (S45))).bind fun y347 => (if x16_3.length + y347.length < 4398046511104 then (naive_Learn.l2 k3 a1 a2 x9_3 x10_2 (x16_3 ++ y347) (x9_3.length : Int) 0 t341 t342) else (none)))))) = some r := H
                    have A32 := Aside0.mk A320
                    clear A320
                    by_cases c33 : t343 < a2
                    · rw [if_pos c33] at H
                      have c33b0 : decide (t343 < a2) = true := decide_eq_true c33
                      clear c33
                      obtain rfl := Option.some.inj H
                      obtain ⟨Ao34, co34, eo34⟩ := Kd.R_slice HO_16.out
                      subst eo34
                      obtain ⟨Ao35, co35, eo35⟩ := Kd.N_slice HO_9.out
                      subst eo35
                      obtain ⟨Ao36, co36, eo36⟩ := Kd.R_slice HO_10.out
                      subst eo36
                      go_wp2_with (first | ((with_reducible refine gate_callee (f := 25) rfl ?_); refine goesL_ (some 69) rfl rfl Try.func25 (by kernel_rfl) rfl #[.slice Ao35 x9_3.length co35, .slice Ao36 x10_2.length co36] rfl (by (try simp only [List.map_toArray, List.map_cons, List.map_nil]); first | done | rfl | (simp only [List.length_drop, List.length_take]; rfl)) ?_; (with_reducible refine (naive_Best.calls _ _ x9_3 _ _ x10_2 t341 t342 t343 _ ?side1 ?side2 ?side3 ?side4 A32.out).mono ?_); (case side1 => repeat (first | exact (Kd.N_reads' HO_9.out).2.2 | (with_reducible refine Kd.C_alloc ?_ _) | (with_reducible refine Kd.C_drewN ?_ _) | (with_reducible refine Kd.C_drew ?_))); (case side2 => exact (Kd.N_reads' HO_9.out).2.1); (case side3 => repeat (first | exact (Kd.R_reads' HO_10.out).2.2 | (with_reducible refine Kd.C_alloc ?_ _) | (with_reducible refine Kd.C_drewN ?_ _) | (with_reducible refine Kd.C_drew ?_))); (case side4 => exact (Kd.R_reads' HO_10.out).2.1); rintro e w37 ⟨rfl, hb⟩; refine ⟨_, rfl, ?_⟩; have n0_ := Aside0.mk (Kd.N_below (by (with_reducible repeat (first | apply Kd.N_alloc | apply Kd.N_drewN | apply Kd.N_drew)); exact HO_9.out) hb); have n1_ := Aside0.mk (Kd.R_below (by (with_reducible repeat (first | apply Kd.R_alloc | apply Kd.R_drewN | apply Kd.R_drew)); exact HO_10.out) hb); have n2_ := Aside0.mk (Kd.R_below (by (with_reducible repeat (first | apply Kd.R_alloc | apply Kd.R_drewN | apply Kd.R_drew)); exact HO_16.out) hb); have n3_ := Aside0.mk (below_step (by repeat (first | (with_reducible first | exact HB.out | apply below_alloc | apply pw_below_drewN | apply below_drew1) | exact HB.out)) hb); clear HO_9; clear HO_10; clear HO_16; clear HB; have HO_9 := n0_; have HO_10 := n1_; have HO_16 := n2_; have HB := n3_; clear n0_ n1_ n2_ n3_; (try clear hb); (try clear hb2); (try clear hk); (try clear hi)) | ((with_reducible refine gate_dst (N := 17) rfl ?_); refine box_event ?hg (N := 17) ?hd (cs := #[.string (⟨#[]⟩ : ByteArray), .string (⟨#[]⟩ : ByteArray)]) (t := 45) ?hr ?_; (case hd => rfl); (case hg => rfl); (case hr => first | (go_simp; done) | (go_simp; rfl)); intro gb344 hg w38 hbox hb; have n0_ := Aside0.mk (Kd.N_below (Kd.N_elderB (by (with_reducible repeat (first | apply Kd.N_alloc | apply Kd.N_drewN | apply Kd.N_drew)); exact HO_9.out) gb344 (Nat.le_of_eq hg.symm)) hb); have n1_ := Aside0.mk (Kd.R_below (by (with_reducible repeat (first | apply Kd.R_alloc | apply Kd.R_drewN | apply Kd.R_drew)); exact HO_10.out) hb); have n2_ := Aside0.mk (Kd.R_below (Kd.R_elderB (by (with_reducible repeat (first | apply Kd.R_alloc | apply Kd.R_drewN | apply Kd.R_drew)); exact HO_16.out) gb344 (Nat.le_of_eq hg.symm)) hb); have n3_ := Aside0.mk (below_step (by repeat (first | (with_reducible first | exact HB.out | apply below_alloc | apply pw_below_drewN | apply below_drew1) | exact HB.out)) hb); have n4_ := Aside0.mk (hbox); have n5_ := Aside0.mk ((by rw [hg]; exact (below_size (by repeat (first | (with_reducible first | exact HB.out | apply below_alloc | apply pw_below_drewN | apply below_drew1) | exact HB.out))) : w.heap.size ≤ gb344)); have n6_ := Aside0.mk ((by rw [hg]; exact (below_size (by repeat (first | (with_reducible first | exact HB.out | apply below_alloc | apply pw_below_drewN | apply below_drew1) | exact HB.out))) : w.heap.size ≤ gb344)); clear HO_9; clear HO_10; clear HO_16; clear HB; have HO_9 := n0_; have HO_10 := n1_; have HO_16 := n2_; have HB := n3_; have BK344 := n4_; have GW344 := n5_; have GE344 := n6_; clear n0_ n1_ n2_ n3_ n4_ n5_ n6_; clear hb hbox hg; have hcz39_0 : w38.cell? ⟨gb344, 0, none⟩ = some (.string (⟨#[]⟩ : ByteArray)) := (blk_cell BK344.out 0).trans rfl; have hcz39_1 : w38.cell? ⟨gb344, 1, none⟩ = some (.string (⟨#[]⟩ : ByteArray)) := (blk_cell BK344.out 1).trans rfl; have hfz39_0 := blk_frozen BK344.out 0; have hfz39_1 := blk_frozen BK344.out 1))
                      go_ret
                      exact ⟨_, by first | rfl | (simp [errW_none, errW_some] <;> rfl) | (simp [*, errW_none, errW_some] <;> rfl), by (with_reducible repeat (first | apply Kd.R_alloc | apply Kd.R_drewN | apply Kd.R_drew)); exact Kd.R_mono (Kd.R_far (p := ⟨gb344, 1, none⟩) (Kd.R_far (p := ⟨gb344, 0, none⟩) (Kd.R_mono HO_16.out (fun k_ hk => (⟨hk, hk.2⟩ : _ ∧ k_ ≠ gb344))) (fun _ hk => hk.2) (.string t341)) (fun _ hk => hk.2) (.string t342)) (fun _ hk => trivial), by repeat (first | (with_reducible first | exact HB.out | apply below_alloc | apply pw_below_drewN | apply below_drew1 | refine below_set ?_ GE344.out) | exact HB.out)⟩
                    · rw [if_neg c33] at H
                      have c33b0 : decide (t343 < a2) = false := decide_eq_false c33
                      clear c33
                      replace H := Option.bind_eq_some_iff.mp H
                      obtain ⟨t345, A400, H⟩ := H
                      replace H : ((strings_Clone.f t342).bind fun t346 => ((some (([(⟨t345, t346⟩ : S45)] : List (S45)) : List (S45))).bind fun y347 => (if x16_3.length + y347.length < 4398046511104 then (naive_Learn.l2 k3 a1 a2 x9_3 x10_2 (x16_3 ++ y347) (x9_3.length : Int) 0 t341 t342) else (none)))) = some r := H
                      have A40 := Aside0.mk A400
                      clear A400
                      replace H := Option.bind_eq_some_iff.mp H
                      obtain ⟨t346, A410, H⟩ := H
                      replace H : ((some (([(⟨t345, t346⟩ : S45)] : List (S45)) : List (S45))).bind fun y347 => (if x16_3.length + y347.length < 4398046511104 then (naive_Learn.l2 k3 a1 a2 x9_3 x10_2 (x16_3 ++ y347) (x9_3.length : Int) 0 t341 t342) else (none))) = some r := H
                      have A41 := Aside0.mk A410
                      clear A410
                      obtain ⟨y347, hy347⟩ : ∃ y_ : List (S45), y_ = (([(⟨t345, t346⟩ : S45)] : List (S45))) := ⟨_, rfl⟩
                      replace H : (if x16_3.length + y347.length < 4398046511104 then (naive_Learn.l2 k3 a1 a2 x9_3 x10_2 (x16_3 ++ y347) (x9_3.length : Int) 0 t341 t342) else (none)) = some r := by first | (rw [hy347]; with_reducible exact H) | (have H2_ := (Option.bind_some _ _).symm.trans H; rw [hy347]; with_reducible exact H2_) | (have H2_ := (Option.bind_some _ _).symm.trans H; with_reducible exact H2_) | with_reducible exact H | (rw [hy347]; exact H) | exact H
                      have Ny347 := Aside0.mk hy347
                      clear hy347
                      by_cases c42 : x16_3.length + y347.length < 4398046511104
                      · rw [if_pos c42] at H
                        have LMc42 := Aside0.mk c42
                        clear c42
                        obtain ⟨y350, hy350⟩ : ∃ y_ : List (S45), y_ = (x16_3 ++ y347) := ⟨_, rfl⟩
                        replace H : (naive_Learn.l2 k3 a1 a2 x9_3 x10_2 y350 (x9_3.length : Int) 0 t341 t342) = some r := by first | (rw [hy350]; with_reducible exact H) | (have H2_ := (Option.bind_some _ _).symm.trans H; rw [hy350]; with_reducible exact H2_) | (have H2_ := (Option.bind_some _ _).symm.trans H; with_reducible exact H2_) | with_reducible exact H | (rw [hy350]; exact H) | exact H
                        have Ny350 := Aside0.mk hy350
                        clear hy350
                        have H' := Aside0.mk H
                        clear H
                        obtain ⟨Ao43, co43, eo43⟩ := Kd.R_slice HO_16.out
                        subst eo43
                        obtain ⟨Ao44, co44, eo44⟩ := Kd.N_slice HO_9.out
                        subst eo44
                        obtain ⟨Ao45, co45, eo45⟩ := Kd.R_slice HO_10.out
                        subst eo45
                        try go_wp2_with (first | ((with_reducible refine gate_callee (f := 25) rfl ?_); refine goesL_ (some 69) rfl rfl Try.func25 (by kernel_rfl) rfl #[.slice Ao44 x9_3.length co44, .slice Ao45 x10_2.length co45] rfl (by (try simp only [List.map_toArray, List.map_cons, List.map_nil]); first | done | rfl | (simp only [List.length_drop, List.length_take]; rfl)) ?_; (with_reducible refine (naive_Best.calls _ _ x9_3 _ _ x10_2 t341 t342 t343 _ ?side1 ?side2 ?side3 ?side4 A32.out).mono ?_); (case side1 => repeat (first | exact (Kd.N_reads' HO_9.out).2.2 | (with_reducible refine Kd.C_alloc ?_ _) | (with_reducible refine Kd.C_drewN ?_ _) | (with_reducible refine Kd.C_drew ?_))); (case side2 => exact (Kd.N_reads' HO_9.out).2.1); (case side3 => repeat (first | exact (Kd.R_reads' HO_10.out).2.2 | (with_reducible refine Kd.C_alloc ?_ _) | (with_reducible refine Kd.C_drewN ?_ _) | (with_reducible refine Kd.C_drew ?_))); (case side4 => exact (Kd.R_reads' HO_10.out).2.1); rintro e w46 ⟨rfl, hb⟩; refine ⟨_, rfl, ?_⟩; have n0_ := Aside0.mk (Kd.N_below (by (with_reducible repeat (first | apply Kd.N_alloc | apply Kd.N_drewN | apply Kd.N_drew)); exact HO_9.out) hb); have n1_ := Aside0.mk (Kd.R_below (by (with_reducible repeat (first | apply Kd.R_alloc | apply Kd.R_drewN | apply Kd.R_drew)); exact HO_10.out) hb); have n2_ := Aside0.mk (Kd.R_below (by (with_reducible repeat (first | apply Kd.R_alloc | apply Kd.R_drewN | apply Kd.R_drew)); exact HO_16.out) hb); have n3_ := Aside0.mk (below_step (by repeat (first | (with_reducible first | exact HB.out | apply below_alloc | apply pw_below_drewN | apply below_drew1) | exact HB.out)) hb); clear HO_9; clear HO_10; clear HO_16; clear HB; have HO_9 := n0_; have HO_10 := n1_; have HO_16 := n2_; have HB := n3_; clear n0_ n1_ n2_ n3_; (try clear hb); (try clear hb2); (try clear hk); (try clear hi)) | ((with_reducible refine gate_dst (N := 17) rfl ?_); refine box_event ?hg (N := 17) ?hd (cs := #[.string (⟨#[]⟩ : ByteArray), .string (⟨#[]⟩ : ByteArray)]) (t := 45) ?hr ?_; (case hd => rfl); (case hg => rfl); (case hr => first | (go_simp; done) | (go_simp; rfl)); intro gb344 hg w47 hbox hb; have n0_ := Aside0.mk (Kd.N_below (Kd.N_elderB (by (with_reducible repeat (first | apply Kd.N_alloc | apply Kd.N_drewN | apply Kd.N_drew)); exact HO_9.out) gb344 (Nat.le_of_eq hg.symm)) hb); have n1_ := Aside0.mk (Kd.R_below (by (with_reducible repeat (first | apply Kd.R_alloc | apply Kd.R_drewN | apply Kd.R_drew)); exact HO_10.out) hb); have n2_ := Aside0.mk (Kd.R_below (Kd.R_elderB (by (with_reducible repeat (first | apply Kd.R_alloc | apply Kd.R_drewN | apply Kd.R_drew)); exact HO_16.out) gb344 (Nat.le_of_eq hg.symm)) hb); have n3_ := Aside0.mk (below_step (by repeat (first | (with_reducible first | exact HB.out | apply below_alloc | apply pw_below_drewN | apply below_drew1) | exact HB.out)) hb); have n4_ := Aside0.mk (hbox); have n5_ := Aside0.mk ((by rw [hg]; exact (below_size (by repeat (first | (with_reducible first | exact HB.out | apply below_alloc | apply pw_below_drewN | apply below_drew1) | exact HB.out))) : w.heap.size ≤ gb344)); have n6_ := Aside0.mk ((by rw [hg]; exact (below_size (by repeat (first | (with_reducible first | exact HB.out | apply below_alloc | apply pw_below_drewN | apply below_drew1) | exact HB.out))) : w.heap.size ≤ gb344)); clear HO_9; clear HO_10; clear HO_16; clear HB; have HO_9 := n0_; have HO_10 := n1_; have HO_16 := n2_; have HB := n3_; have BK344 := n4_; have GW344 := n5_; have GE344 := n6_; clear n0_ n1_ n2_ n3_ n4_ n5_ n6_; clear hb hbox hg; have hcz48_0 : w47.cell? ⟨gb344, 0, none⟩ = some (.string (⟨#[]⟩ : ByteArray)) := (blk_cell BK344.out 0).trans rfl; have hcz48_1 : w47.cell? ⟨gb344, 1, none⟩ = some (.string (⟨#[]⟩ : ByteArray)) := (blk_cell BK344.out 1).trans rfl; have hfz48_0 := blk_frozen BK344.out 0; have hfz48_1 := blk_frozen BK344.out 1))
                        have n0_ : Aside0 (Kd.N (Kd.slice 9 Kd.string) 46 ((w47.setCell ⟨gb344, 0, none⟩ (.string t341)).setCell ⟨gb344, 1, none⟩ (.string t342)) w.heap.size (fun k_ => some k_ ≠ (.slice Ao45 x10_2.length co45 : Value).ownBlock ∧ some k_ ≠ (.slice Ao43 x16_3.length co43 : Value).ownBlock ∧ k_ ≠ gb344) (.slice Ao44 x9_3.length co44) x9_3) := ⟨by (with_reducible repeat (first | apply Kd.N_alloc | apply Kd.N_drewN | apply Kd.N_drew)); exact Kd.N_mono (Kd.N_far (p := ⟨gb344, 1, none⟩) (Kd.N_far (p := ⟨gb344, 0, none⟩) (Kd.N_mono HO_9.out (fun k_ hk => (⟨hk, hk.2⟩ : _ ∧ k_ ≠ gb344))) (fun _ hk => hk.2) (.string t341)) (fun _ hk => hk.2) (.string t342)) (fun _ hk => ⟨hk.1.1.1, ⟨hk.1.1.2, hk.1.2⟩⟩)⟩
                        have n1_ : Aside0 (Kd.R (Kd.int .i64) 3 ((w47.setCell ⟨gb344, 0, none⟩ (.string t341)).setCell ⟨gb344, 1, none⟩ (.string t342)) w.heap.size (fun _ => True) (.slice Ao45 x10_2.length co45) x10_2) := ⟨by (with_reducible repeat (first | apply Kd.R_alloc | apply Kd.R_drewN | apply Kd.R_drew)); exact Kd.R_mono (Kd.R_far (p := ⟨gb344, 1, none⟩) (Kd.R_far (p := ⟨gb344, 0, none⟩) (Kd.R_types HO_10.out BK344.out (by decide)) (fun _ hk => hk.2) (.string t341)) (fun _ hk => hk.2) (.string t342)) (fun _ hk => trivial)⟩
                        have n2_ : Aside0 (Kd.R k45 45 ((w47.setCell ⟨gb344, 0, none⟩ (.string t341)).setCell ⟨gb344, 1, none⟩ (.string t342)) w.heap.size (fun k_ => k_ ≠ gb344) (.slice Ao43 x16_3.length co43) x16_3) := ⟨by (with_reducible repeat (first | apply Kd.R_alloc | apply Kd.R_drewN | apply Kd.R_drew)); exact Kd.R_mono (Kd.R_far (p := ⟨gb344, 1, none⟩) (Kd.R_far (p := ⟨gb344, 0, none⟩) (Kd.R_mono HO_16.out (fun k_ hk => (⟨hk, hk.2⟩ : _ ∧ k_ ≠ gb344))) (fun _ hk => hk.2) (.string t341)) (fun _ hk => hk.2) (.string t342)) (fun _ hk => hk.1.2)⟩
                        have n3_ : Aside0 (((w47.setCell ⟨gb344, 0, none⟩ (.string t341)).setCell ⟨gb344, 1, none⟩ (.string t342)).heap[gb344]? = some (.cells #[.string t341, .string t342] 45 (0, 0))) := ⟨by (with_reducible repeat (first | refine blk_drewN ?_ _ | refine blk_drew ?_ | refine blk_alloc ?_ _)); refine blk_put (cs := #[.string t341, .string (⟨#[]⟩ : ByteArray)]) ?_ 1 _ rfl; (with_reducible repeat (first | refine blk_drewN ?_ _ | refine blk_drew ?_ | refine blk_alloc ?_ _)); refine blk_put (cs := #[.string (⟨#[]⟩ : ByteArray), .string (⟨#[]⟩ : ByteArray)]) ?_ 0 _ rfl; (with_reducible repeat (first | refine blk_drewN ?_ _ | refine blk_drew ?_ | refine blk_alloc ?_ _)); exact BK344.out⟩
                        have n4_ : Aside0 (Below w.heap.size w ((w47.setCell ⟨gb344, 0, none⟩ (.string t341)).setCell ⟨gb344, 1, none⟩ (.string t342))) := ⟨by repeat (first | (with_reducible first | exact HB.out | apply below_alloc | apply pw_below_drewN | apply below_drew1 | refine below_set ?_ GE344.out) | exact HB.out)⟩
                        (try clear HO_9)
                        (try clear HO_10)
                        (try clear HO_16)
                        (try clear BK344)
                        (try clear HB)
                        generalize ((w47.setCell ⟨gb344, 0, none⟩ (.string t341)).setCell ⟨gb344, 1, none⟩ (.string t342)) = w49 at n0_ n1_ n2_ n3_ n4_ ⊢
                        have HO_9 := n0_
                        have HO_10 := n1_
                        have HO_16 := n2_
                        have BK344 := n3_
                        have HB := n4_
                        clear n0_ n1_ n2_ n3_ n4_
                        have n0_ := Aside0.mk (Kd.N_drew HO_9.out)
                        have n1_ := Aside0.mk (Kd.R_drew HO_10.out)
                        have n2_ := Aside0.mk (Kd.R_drew HO_16.out)
                        have n3_ := Aside0.mk (blk_drew BK344.out)
                        have n4_ := Aside0.mk (below_drew1 HB.out)
                        clear HO_9
                        clear HO_10
                        clear HO_16
                        clear BK344
                        clear HB
                        have HO_9 := n0_
                        have HO_10 := n1_
                        have HO_16 := n2_
                        have BK344 := n3_
                        have HB := n4_
                        clear n0_ n1_ n2_ n3_ n4_
                        refine start_ (n := 11) (S := fun w' => w'.cell? ⟨gb344, 0, none⟩ = some (.string t341) ∧ w'.cell? ⟨gb344, 1, none⟩ = some (.string t342)) (ds := []) #[false, false, false, false, false, false, false, false, false, false, false] (by kernel_rfl) rfl rfl ⟨(blk_cell BK344.out 0).trans rfl, (blk_cell BK344.out 1).trans rfl⟩ (fun hHeld => ?_); refine with_tabW naive_Learn.tab21 naive_Learn.bits21 (fun HT_ HW_ => ?_)
                        generalize w49.drew = w50 at HO_9 HO_10 HO_16 BK344 HB hHeld ⊢
                        refine pure_ (i := 0) (N := some 75) (v := ?_) (a' := ?_) #[true, false, false, false, false, false, false, false, false, false, false] rfl rfl (any_of HT_.out (by kernel_rfl)) (fun _ _ _ h => h) (Or.inl ⟨by rfl, ?_⟩) ?_ ?_
                        rotate_left
                        · intro w'
                          go_simp
                          with_reducible rfl
                        rotate_left
                        · simp only [Act.put, List.setIfInBounds_toArray, List.set_cons_zero, List.set_cons_succ, i64_w, i32_w]
                          rfl
                        refine pure_ (i := 1) (N := some 76) (v := ?_) (a' := ?_) #[true, true, false, false, false, false, false, false, false, false, false] rfl rfl (any_of HT_.out (by kernel_rfl)) (fun _ _ _ h => h) (Or.inl ⟨by rfl, ?_⟩) ?_ ?_
                        rotate_left
                        · intro w'
                          go_simp
                          with_reducible rfl
                        rotate_left
                        · simp only [Act.put, List.setIfInBounds_toArray, List.set_cons_zero, List.set_cons_succ, i64_w, i32_w]
                          rfl
                        refine pure_ (i := 4) (N := some 79) (v := ?_) (a' := ?_) #[true, true, false, false, true, false, false, false, false, false, false] rfl rfl (any_of HT_.out (by kernel_rfl)) (fun _ _ _ h => h) (Or.inl ⟨by rfl, ?_⟩) ?_ ?_
                        rotate_left
                        · intro w'
                          go_simp
                          with_reducible rfl
                        rotate_left
                        · simp only [Act.put, List.setIfInBounds_toArray, List.set_cons_zero, List.set_cons_succ, i64_w, i32_w]
                          rfl
                        refine take_ (i := 2) (N := some 77) (v := ?_) (a' := ?_) #[true, true, true, false, true, false, false, false, false, false, false] rfl rfl (take_ofW HT_.out HW_.out (by kernel_rfl)) (fun _ _ _ h => h) (Or.inl ⟨by rfl, ?_⟩) hHeld ?_ ?_
                        rotate_left
                        · rintro w' ⟨s0, s1⟩
                          go_simp
                          with_reducible rfl
                        rotate_left
                        · simp only [Act.put, List.setIfInBounds_toArray, List.set_cons_zero, List.set_cons_succ, i64_w, i32_w]
                          rfl
                        refine take_ (i := 5) (N := some 80) (v := ?_) (a' := ?_) #[true, true, true, false, true, true, false, false, false, false, false] rfl rfl (take_ofW HT_.out HW_.out (by kernel_rfl)) (fun _ _ _ h => h) (Or.inl ⟨by rfl, ?_⟩) hHeld ?_ ?_
                        rotate_left
                        · rintro w' ⟨s0, s1⟩
                          go_simp
                          with_reducible rfl
                        rotate_left
                        · simp only [Act.put, List.setIfInBounds_toArray, List.set_cons_zero, List.set_cons_succ, i64_w, i32_w]
                          rfl
                        refine one_ (i := 3) (N := some 78) #[true, true, true, true, true, true, false, false, false, false, false] rfl rfl (one_of HT_.out (by kernel_rfl)) (by decide) (fun K hK => ?_)
                        refine goes_ Try.func41 (by kernel_rfl) rfl #[.string t341] (by rfl) rfl rfl (by (try simp only [List.map_toArray, List.map_cons, List.map_nil]); first | done | rfl | (simp only [List.length_drop, List.length_take]; rfl)) ?_
                        with_reducible refine (strings_Clone.calls t341 t345 _ A40.out).mono ?_
                        rintro e w51 ⟨rfl, hb⟩
                        refine ⟨_, rfl, ?_⟩
                        have n0_ := Aside0.mk (Kd.N_below (by (with_reducible repeat (first | apply Kd.N_alloc | apply Kd.N_drewN | apply Kd.N_drew)); exact HO_9.out) hb)
                        have n1_ := Aside0.mk (Kd.R_below (by (with_reducible repeat (first | apply Kd.R_alloc | apply Kd.R_drewN | apply Kd.R_drew)); exact HO_10.out) hb)
                        have n2_ := Aside0.mk (Kd.R_below (by (with_reducible repeat (first | apply Kd.R_alloc | apply Kd.R_drewN | apply Kd.R_drew)); exact HO_16.out) hb)
                        have n3_ := Aside0.mk (blk_below (g := gb344) (o := .cells #[.string t341, .string t342] 45 (0, 0)) (by (with_reducible repeat (first | refine blk_drewN ?_ _ | refine blk_drew ?_ | refine blk_alloc ?_ _)); exact BK344.out) hb)
                        have n4_ := Aside0.mk (below_step (by repeat (first | (with_reducible first | exact HB.out | apply below_alloc | apply pw_below_drewN | apply below_drew1 | refine below_set ?_ GE344.out) | exact HB.out)) hb)
                        clear HO_9
                        clear HO_10
                        clear HO_16
                        clear BK344
                        clear HB
                        have HO_9 := n0_
                        have HO_10 := n1_
                        have HO_16 := n2_
                        have BK344 := n3_
                        have HB := n4_
                        clear n0_ n1_ n2_ n3_ n4_
                        (try clear hb)
                        (try clear hb2)
                        (try clear hk)
                        (try clear hi)
                        refine hK.out _ _ ⟨(blk_cell BK344.out 0).trans rfl, (blk_cell BK344.out 1).trans rfl⟩ (fun hHeld => ?_)
                        clear hK K
                        refine norm_ (a' := ?_) ?_ ?_
                        rotate_left
                        · show Act.put _ (some 78) _ = _
                          simp only [Act.put, List.setIfInBounds_toArray, List.set_cons_zero, List.set_cons_succ, i64_w, i32_w]
                          rfl
                        refine one_ (i := 6) (N := some 81) #[true, true, true, true, true, true, true, false, false, false, false] rfl rfl (one_of HT_.out (by kernel_rfl)) (by decide) (fun K hK => ?_)
                        refine goes_ Try.func41 (by kernel_rfl) rfl #[.string t342] (by rfl) rfl rfl (by (try simp only [List.map_toArray, List.map_cons, List.map_nil]); first | done | rfl | (simp only [List.length_drop, List.length_take]; rfl)) ?_
                        with_reducible refine (strings_Clone.calls t342 t346 _ A41.out).mono ?_
                        rintro e w52 ⟨rfl, hb⟩
                        refine ⟨_, rfl, ?_⟩
                        have n0_ := Aside0.mk (Kd.N_below (by (with_reducible repeat (first | apply Kd.N_alloc | apply Kd.N_drewN | apply Kd.N_drew)); exact HO_9.out) hb)
                        have n1_ := Aside0.mk (Kd.R_below (by (with_reducible repeat (first | apply Kd.R_alloc | apply Kd.R_drewN | apply Kd.R_drew)); exact HO_10.out) hb)
                        have n2_ := Aside0.mk (Kd.R_below (by (with_reducible repeat (first | apply Kd.R_alloc | apply Kd.R_drewN | apply Kd.R_drew)); exact HO_16.out) hb)
                        have n3_ := Aside0.mk (blk_below (g := gb344) (o := .cells #[.string t341, .string t342] 45 (0, 0)) (by (with_reducible repeat (first | refine blk_drewN ?_ _ | refine blk_drew ?_ | refine blk_alloc ?_ _)); exact BK344.out) hb)
                        have n4_ := Aside0.mk (below_step (by repeat (first | (with_reducible first | exact HB.out | apply below_alloc | apply pw_below_drewN | apply below_drew1 | refine below_set ?_ GE344.out) | exact HB.out)) hb)
                        clear HO_9
                        clear HO_10
                        clear HO_16
                        clear BK344
                        clear HB
                        have HO_9 := n0_
                        have HO_10 := n1_
                        have HO_16 := n2_
                        have BK344 := n3_
                        have HB := n4_
                        clear n0_ n1_ n2_ n3_ n4_
                        (try clear hb)
                        (try clear hb2)
                        (try clear hk)
                        (try clear hi)
                        refine hK.out _ _ ⟨(blk_cell BK344.out 0).trans rfl, (blk_cell BK344.out 1).trans rfl⟩ (fun hHeld => ?_)
                        clear hK K
                        refine norm_ (a' := ?_) ?_ ?_
                        rotate_left
                        · show Act.put _ (some 81) _ = _
                          simp only [Act.put, List.setIfInBounds_toArray, List.set_cons_zero, List.set_cons_succ, i64_w, i32_w]
                          rfl
                        refine pure_ (i := 7) (N := some 82) (v := ?_) (a' := ?_) #[true, true, true, true, true, true, true, true, false, false, false] rfl rfl (any_of HT_.out (by kernel_rfl)) (fun _ _ _ h => h) (Or.inl ⟨by rfl, ?_⟩) ?_ ?_
                        rotate_left
                        · intro w'
                          go_simp
                          with_reducible rfl
                        rotate_left
                        · simp only [Act.put, List.setIfInBounds_toArray, List.set_cons_zero, List.set_cons_succ, i64_w, i32_w]
                          rfl
                        refine one_ (i := 8) (N := some 83) #[true, true, true, true, true, true, true, true, true, false, false] rfl rfl (one_of HT_.out (by kernel_rfl)) (by decide) (fun K hK => ?_)
                        refine Kd.R_lit_step k45 _ 45 ?hg (N := 83) ?hd (xs := ([(⟨t345, t346⟩ : S45)] : List (S45))) (inner := [.string t345, .string t346]) (ok := fun _ => True) (okp := fun _ => True) ?hr ?hp (fun _ hk => hk) trivial (Below.refl _ _) (Nat.le_refl _) (by simp) ?_; (case hd => rfl); (case hg => rfl); (case hr => first | (go_simp; done) | (go_simp; rfl)); (case hp => exact (Reps.c2 (show Kd.M k45 _ _ _ (⟨t345, t346⟩ : S45) [.string t345, .string t346] from (k45_mkM _ _ _ (⟨t345, t346⟩ : S45) )) (Reps.none _ _)))
                        intro v348 w53 ho54 hb hg_ hnew_
                        clear hg_ hnew_
                        (first | rw [← Ny347.out] at ho54 | (simp only [Int.reduceToNat] at ho54; rw [← Ny347.out] at ho54))
                        have n0_ := Aside0.mk (Kd.N_elder' (by (with_reducible repeat (first | apply Kd.N_alloc | apply Kd.N_drewN | apply Kd.N_drew)); exact HO_9.out) (Kd.R_base ho54) hb)
                        have n1_ := Aside0.mk (Kd.R_below (by (with_reducible repeat (first | apply Kd.R_alloc | apply Kd.R_drewN | apply Kd.R_drew)); exact HO_10.out) hb)
                        have n2_ := Aside0.mk (Kd.R_elder' (by (with_reducible repeat (first | apply Kd.R_alloc | apply Kd.R_drewN | apply Kd.R_drew)); exact HO_16.out) (Kd.R_base ho54) hb)
                        have n3_ := Aside0.mk (Kd.R_lower (Kd.R_newB (Kd.R_new' ho54 (Kd.R_lt (by (with_reducible repeat (first | apply Kd.R_alloc | apply Kd.R_drewN | apply Kd.R_drew)); exact HO_16.out))) (g := gb344) (o := .cells #[.string t341, .string t342] 45 (0, 0)) (by (with_reducible repeat (first | refine blk_drewN ?_ _ | refine blk_drew ?_ | refine blk_alloc ?_ _)); exact BK344.out)) (below_size (by repeat (first | (with_reducible first | exact HB.out | apply below_alloc | apply pw_below_drewN | apply below_drew1 | refine below_set ?_ GE344.out) | exact HB.out))))
                        have n4_ := Aside0.mk (blk_below (g := gb344) (o := .cells #[.string t341, .string t342] 45 (0, 0)) (by (with_reducible repeat (first | refine blk_drewN ?_ _ | refine blk_drew ?_ | refine blk_alloc ?_ _)); exact BK344.out) hb)
                        have n5_ := Aside0.mk (below_step (by repeat (first | (with_reducible first | exact HB.out | apply below_alloc | apply pw_below_drewN | apply below_drew1 | refine below_set ?_ GE344.out) | exact HB.out)) hb)
                        clear HO_9
                        clear HO_10
                        clear HO_16
                        clear BK344
                        clear HB
                        have HO_9 := n0_
                        have HO_10 := n1_
                        have HO_16 := n2_
                        have HO349 := n3_
                        have BK344 := n4_
                        have HB := n5_
                        clear n0_ n1_ n2_ n3_ n4_ n5_
                        clear hb ho54
                        obtain ⟨Ao56, co56, eo56⟩ := Kd.R_slice HO349.out
                        (first | subst eo56 | (injection eo56 with f1_ f2_ f3_; have f4_ := f1_.symm; have f5_ := f3_.symm; clear f1_ f2_ f3_; subst f4_; subst f5_))
                        refine hK.out _ _ ⟨(blk_cell BK344.out 0).trans rfl, (blk_cell BK344.out 1).trans rfl⟩ (fun hHeld => ?_)
                        clear hK K
                        refine norm_ (a' := ?_) ?_ ?_
                        rotate_left
                        · show Act.put _ (some 83) _ = _
                          simp only [Act.put, List.setIfInBounds_toArray, List.set_cons_zero, List.set_cons_succ, i64_w, i32_w]
                          rfl
                        refine one_ (i := 9) (N := some 84) #[true, true, true, true, true, true, true, true, true, true, false] rfl rfl (one_of HT_.out (by kernel_rfl)) (by decide) (fun K hK => ?_)
                        refine Kd.R_append_rows_step k45 (w0 := w) w.heap.size (by rfl) (.tmp 75) (.tmp 83) 23 45 (.agg #[(.string ⟨#[]⟩), (.string ⟨#[]⟩)]) 32 rfl Try.underlying23 info45 rfl (by decide) (by omega) (.slice Ao43 x16_3.length co43) x16_3 y347 _ _ _ (fun k_ => some k_ ≠ (.slice Ao56 y347.length co56 : Value).ownBlock ∧ k_ ≠ gb344) (fun _ => False) rfl rfl ?aO ?aR (fun _ _ h => h) (fun _ h => h.elim) ?aF ?aB ?aS ?aL ?_
                        (case aR => repeat (first | exact (Kd.R_reads' HO349.out).2.2 | (with_reducible refine Kd.C_alloc ?_ _) | (with_reducible refine Kd.C_drewN ?_ _) | (with_reducible refine Kd.C_drew ?_)))
                        (case aB => exact (by repeat (first | (with_reducible first | exact HB.out | apply below_alloc | apply pw_below_drewN | apply below_drew1 | refine below_set ?_ GE344.out) | exact HB.out)))
                        (case aF => exact (fun k_ hk => ⟨Kd.fresh' (Kd.R_lt (by (with_reducible repeat (first | apply Kd.R_alloc | apply Kd.R_drewN | apply Kd.R_drew)); exact HO349.out)) k_ hk, Kd.freshB (g := gb344) (o := .cells #[.string t341, .string t342] 45 (0, 0)) (by (with_reducible repeat (first | refine blk_drewN ?_ _ | refine blk_drew ?_ | refine blk_alloc ?_ _)); exact BK344.out) k_ hk⟩))
                        (case aO => exact (by (with_reducible repeat (first | apply Kd.R_alloc | apply Kd.R_drewN | apply Kd.R_drew)); exact Kd.R_mono HO_16.out (fun _ hk => ⟨hk.2, hk.1⟩)))
                        (case aS => exact (below_size (by repeat (first | (with_reducible first | exact HB.out | apply below_alloc | apply pw_below_drewN | apply below_drew1 | refine below_set ?_ GE344.out) | exact HB.out))))
                        (case aL => have := LMc42.out; omega)
                        intro v351 w55 ho hb hg hat
                        rw [← Ny350.out] at ho
                        have n0_ := Aside0.mk (Kd.N_afterv (ok := (fun k_ => some k_ ≠ (.slice Ao45 x10_2.length co45 : Value).ownBlock ∧ some k_ ≠ (.slice Ao56 y347.length co56 : Value).ownBlock ∧ k_ ≠ gb344)) (by (with_reducible repeat (first | apply Kd.N_alloc | apply Kd.N_drewN | apply Kd.N_drew)); exact Kd.N_mono HO_9.out (fun _ hk => ⟨⟨hk.1.1, ⟨hk.2, hk.1.2.2⟩⟩, hk.1.2.1⟩)) hg hat)
                        have n1_ := Aside0.mk (Kd.R_over' (by (with_reducible repeat (first | apply Kd.R_alloc | apply Kd.R_drewN | apply Kd.R_drew)); exact HO_10.out) (Kd.R_typed (by (with_reducible repeat (first | apply Kd.R_alloc | apply Kd.R_drewN | apply Kd.R_drew)); exact HO_16.out)) (by decide) hg)
                        have n2_ := Aside0.mk (blk_grown (g := gb344) (o := .cells #[.string t341, .string t342] 45 (0, 0)) (by (with_reducible repeat (first | refine blk_drewN ?_ _ | refine blk_drew ?_ | refine blk_alloc ?_ _)); exact BK344.out) hg (Kd.R_away HO_16.out (fun _ hk => hk.1)))
                        have n3_ := Aside0.mk (Kd.R_after (ok := (fun k_ => k_ ≠ gb344)) (by (with_reducible repeat (first | apply Kd.R_alloc | apply Kd.R_drewN | apply Kd.R_drew)); exact Kd.R_mono HO349.out (fun _ hk => ⟨hk.2, hk.1.2⟩)) hg hat)
                        have n4_ := Aside0.mk (hb)
                        have n5_ := Aside0.mk (ho)
                        clear HO_9
                        clear HO_10
                        clear BK344
                        clear HO349
                        clear HB
                        clear HO_16
                        have HO_9 := n0_
                        have HO_10 := n1_
                        have BK344 := n2_
                        have HO349 := n3_
                        have HB := n4_
                        have HO352 := n5_
                        clear n0_ n1_ n2_ n3_ n4_ n5_
                        clear ho hb hg hat
                        refine hK.out _ _ ⟨(blk_cell BK344.out 0).trans rfl, (blk_cell BK344.out 1).trans rfl⟩ (fun hHeld => ?_)
                        clear hK K
                        refine norm_ (a' := ?_) ?_ ?_
                        rotate_left
                        · show Act.put _ (some 84) _ = _
                          simp only [Act.put, List.setIfInBounds_toArray, List.set_cons_zero, List.set_cons_succ, i64_w, i32_w]
                          rfl
                        refine pure_ (i := 10) (N := some 16) (v := ?_) (a' := ?_) #[true, true, true, true, true, true, true, true, true, true, true] rfl rfl (any_of HT_.out (by kernel_rfl)) (fun _ _ _ h => h) (Or.inl ⟨by rfl, ?_⟩) ?_ ?_
                        rotate_left
                        · intro w'
                          go_simp
                          with_reducible rfl
                        rotate_left
                        · simp only [Act.put, List.setIfInBounds_toArray, List.set_cons_zero, List.set_cons_succ, i64_w, i32_w]
                          rfl
                        refine done_ (done_of HT_.out (by kernel_rfl)) ?_
                        try go_wp2
                        go_loopg [87] k3 (fun kq v87 w' => ∃ (x9_4 : List (List ByteArray)) (x87_4 : Int), v87 = .int .i64 x87_4 ∧ Aside0 (naive_Learn.l2 kq a1 a2 x9_4 x10_2 y350 (x9_3.length : Int) x87_4 t341 t342 = some r) ∧ Aside0 (kq ≤ k3) ∧ Aside0 (Kd.N (Kd.slice 9 Kd.string) 46 w' w.heap.size (fun k_ => some k_ ≠ ((.slice Ao45 x10_2.length co45) : Value).ownBlock ∧ some k_ ≠ (v351 : Value).ownBlock ∧ k_ ≠ gb344) (.slice Ao44 x9_3.length co44) x9_4) ∧ Aside0 (Kd.R (Kd.int .i64) 3 w' w.heap.size (fun _ => True) (.slice Ao45 x10_2.length co45) x10_2) ∧ Aside0 (Kd.R k45 45 w' w.heap.size (fun k_ => k_ ≠ gb344) v351 y350) ∧ Aside0 (w'.heap[gb344]? = some (.cells #[.string t341, .string t342] 45 (0, 0))) ∧ Aside0 (Below w.heap.size w w'))
                        case atStart => exact ⟨(x9_3), (0), (by first | rfl | (simp; done) | (simp [*]; done)), H', ⟨Nat.le_refl _⟩, ⟨by (with_reducible repeat (first | apply Kd.N_alloc | apply Kd.N_drewN | apply Kd.N_drew)); exact Kd.N_mono HO_9.out (fun _ hk => ⟨hk.1.1, ⟨hk.2, hk.1.2.2⟩⟩)⟩, ⟨by (with_reducible repeat (first | apply Kd.R_alloc | apply Kd.R_drewN | apply Kd.R_drew)); exact HO_10.out⟩, ⟨by (with_reducible repeat (first | apply Kd.R_alloc | apply Kd.R_drewN | apply Kd.R_drew)); exact Kd.R_mono HO352.out (fun _ hk => hk.2)⟩, ⟨by (with_reducible repeat (first | refine blk_drewN ?_ _ | refine blk_drew ?_ | refine blk_alloc ?_ _)); exact BK344.out⟩, ⟨by repeat (first | (with_reducible first | exact HB.out | apply below_alloc | apply pw_below_drewN | apply below_drew1 | refine below_set ?_ GE344.out) | exact HB.out)⟩⟩
                        case round =>
                          clear H'
                          try clear c1
                          try clear c2
                          try clear p2
                          try clear c3
                          try clear p3
                          try clear q3
                          try clear hx3
                          try clear c4
                          try clear p6
                          try clear c7
                          try clear c7b0
                          try clear c7b1
                          try clear c8
                          try clear c9
                          try clear c9b0
                          try clear c10
                          try clear c10b0
                          try clear c11
                          try clear c11b0
                          try clear c13
                          try clear c14
                          try clear c22
                          try clear c25
                          try clear c31
                          try clear c31b0
                          try clear p32
                          try clear q32
                          try clear hx32
                          try clear c33
                          try clear c33b0
                          try clear c41
                          try clear c42
                          try clear hcz16_0
                          try clear hcz16_1
                          try clear hcz39_0
                          try clear hcz39_1
                          try clear hcz48_0
                          try clear hcz48_1
                          try clear hfz16_0
                          try clear hfz16_1
                          try clear hfz39_0
                          try clear hfz39_1
                          try clear hfz48_0
                          try clear hfz48_1
                          try clear hx324_0
                          try clear hx324_1
                          try clear p2
                          try clear p3
                          try clear p324
                          try clear p6
                          try clear q3
                          try clear q324
                          obtain ⟨x9_4, x87_4, rfl, HA, HK4, HO_9, HO_10, HO_16, BK344, HB⟩ := hrel
                          have hl9_4 := (Kd.N_reads' HO_9.out).1
                          rw [hl9_4] at HO_9
                          (try simp only [hl9_4])
                          (try simp only [hl9_4] at BK344)
                          (try simp only [hl9_4] at HO_10)
                          (try simp only [hl9_4] at HO_16)
                          cases gk with
                          | zero => exact absurd HA.out (by simp [naive_Learn.l2])
                          | succ k4 =>
                            have H := HA.out
                            clear HA
                            simp only [naive_Learn.l2] at H
                            by_cases c57 : x87_4 < (x9_3.length : Int)
                            · rw [if_pos c57] at H
                              have c57b0 : decide (x87_4 < (x9_3.length : Int)) = true := decide_eq_true c57
                              (try simp only [hl9_4] at c57b0)
                              clear c57
                              by_cases c58 : 0 ≤ x87_4
                              · rw [if_pos c58] at H
                                have c58b0 : decide (0 ≤ x87_4) = true := decide_eq_true c58
                                clear c58
                                by_cases c59 : x87_4 < (x9_4.length : Int)
                                · rw [if_pos c59] at H
                                  have c59b0 : decide (x87_4 < (x9_4.length : Int)) = true := decide_eq_true c59
                                  clear c59
                                  replace H := Option.bind_eq_some_iff.mp H
                                  obtain ⟨t354, A600, H⟩ := H
                                  replace H : (naive_Learn.l2 k4 a1 a2 (x9_4.set (x87_4 : Int).toNat t354) x10_2 y350 (x9_3.length : Int) (wrap64 (x87_4 + 1)) t341 t342) = some r := H
                                  have A60 := Aside0.mk A600
                                  clear A600
                                  obtain ⟨y357, hy357⟩ : ∃ y_ : List (List ByteArray), y_ = (x9_4.set (x87_4 : Int).toNat t354) := ⟨_, rfl⟩
                                  replace H : (naive_Learn.l2 k4 a1 a2 y357 x10_2 y350 (x9_3.length : Int) (wrap64 (x87_4 + 1)) t341 t342) = some r := by first | (rw [hy357]; with_reducible exact H) | (have H2_ := (Option.bind_some _ _).symm.trans H; rw [hy357]; with_reducible exact H2_) | (have H2_ := (Option.bind_some _ _).symm.trans H; with_reducible exact H2_) | with_reducible exact H | (rw [hy357]; exact H) | exact H
                                  have Ny357 := Aside0.mk hy357
                                  clear hy357
                                  have H' := Aside0.mk H
                                  clear H
                                  try go_wp2
                                  have n0_ := Aside0.mk (Kd.N_drew HO_9.out)
                                  have n1_ := Aside0.mk (Kd.R_drew HO_10.out)
                                  have n2_ := Aside0.mk (Kd.R_drew HO_16.out)
                                  have n3_ := Aside0.mk (blk_drew BK344.out)
                                  have n4_ := Aside0.mk (below_drew1 HB.out)
                                  clear HO_9
                                  clear HO_10
                                  clear HO_16
                                  clear BK344
                                  clear HB
                                  have HO_9 := n0_
                                  have HO_10 := n1_
                                  have HO_16 := n2_
                                  have BK344 := n3_
                                  have HB := n4_
                                  clear n0_ n1_ n2_ n3_ n4_
                                  have p353 : 0 ≤ (x87_4 : Int) := of_decide_eq_true (by first | (with_reducible assumption) | assumption)
                                  have q353 : x87_4 < (x9_4.length : Int) := of_decide_eq_true (by first | (with_reducible assumption) | assumption)
                                  obtain ⟨ad353, A353_0, c353_0, e353, hx353_0, hl353_0, hi353_0⟩ := at_L4 (Kd.N_reads' HO_9.out).2.2 x87_4 p353 q353
                                  cases e353
                                  obtain ⟨ce353, hce353, hMe353, hcc353⟩ := Kd.N_get HO_9.out [] x87_4 p353 (by first | exact q353 | exact of_decide_eq_true (by first | (with_reducible assumption) | assumption) | (have e_ := (Kd.N_reads' HO_9.out).1; omega))
                                  obtain ⟨ua353_0, uc353_0, rfl, ul353_0, ge353_0⟩ := Kd.FK_slice_open hMe353
                                  have hv353_0 := hcc353 0 _ rfl
                                  rw [Nat.add_zero, show ((Kd.slice 9 Kd.string)).sz = 1 from rfl, Nat.mul_one] at hv353_0
                                  replace hv353_0 := Option.some.inj (hv353_0.symm.trans hx353_0)
                                  injection hv353_0 with hva_ hvn_ hvc_
                                  rw [hva_] at ge353_0
                                  rw [hvc_] at ul353_0
                                  have HL353_0 := Aside0.mk (show Kd.V Kd.string 9 _ w.heap.size _ _ (rd_L4 x9_4 x87_4) from Kd.V_mk ul353_0 ge353_0)
                                  clear hva_ hvn_ hvc_ ge353_0 ul353_0
                                  clear hcc353 hce353
                                  have HR353_0 := Aside0.mk hi353_0
                                  have HC353_0 := Aside0.mk hl353_0
                                  clear hi353_0 hl353_0
                                  replace p353 := eq_true p353
                                  replace q353 := eq_true q353
                                  refine start_ (n := 10) (S := fun w' => w'.cell? ⟨gb344, 0, none⟩ = some (.string t341) ∧ w'.cell? ⟨gb344, 1, none⟩ = some (.string t342) ∧ w'.cell? (ad353.add (x87_4).toNat) = some (.slice A353_0 (rd_L4 x9_4 x87_4).length c353_0)) (ds := [9]) #[false, false, false, false, false, false, false, false, false, false] (by kernel_rfl) rfl rfl ⟨(blk_cell BK344.out 0).trans rfl, (blk_cell BK344.out 1).trans rfl, hx353_0⟩ (fun hHeld => ?_); refine with_tabW naive_Learn.tab25 naive_Learn.bits25 (fun HT_ HW_ => ?_)
                                  generalize wr.drew = w62 at HO_9 HO_10 HO_16 BK344 HB HL353_0 HR353_0 hx353_0 hHeld ⊢
                                  refine pure_ (i := 0) (N := some 90) (v := ?_) (a' := ?_) #[true, false, false, false, false, false, false, false, false, false] rfl rfl (any_of HT_.out (by kernel_rfl)) (fun _ _ _ h => h) (Or.inl ⟨by rfl, ?_⟩) ?_ ?_
                                  rotate_left
                                  · intro w'
                                    go_simp
                                    with_reducible rfl
                                  rotate_left
                                  · simp only [Act.put, List.setIfInBounds_toArray, List.set_cons_zero, List.set_cons_succ, i64_w, i32_w]
                                    rfl
                                  refine pure_ (i := 1) (N := some 91) (v := ?_) (a' := ?_) #[true, true, false, false, false, false, false, false, false, false] rfl rfl (any_of HT_.out (by kernel_rfl)) (fun _ _ _ h => h) (Or.inl ⟨by rfl, ?_⟩) ?_ ?_
                                  rotate_left
                                  · intro w'
                                    go_simp
                                    with_reducible rfl
                                  rotate_left
                                  · simp only [Act.put, List.setIfInBounds_toArray, List.set_cons_zero, List.set_cons_succ, i64_w, i32_w]
                                    rfl
                                  refine pure_ (i := 2) (N := some 92) (v := ?_) (a' := ?_) #[true, true, true, false, false, false, false, false, false, false] rfl rfl (any_of HT_.out (by kernel_rfl)) (fun _ _ _ h => h) (Or.inl ⟨by rfl, ?_⟩) ?_ ?_
                                  rotate_left
                                  · intro w'
                                    go_simp
                                    with_reducible rfl
                                  rotate_left
                                  · simp only [Act.put, List.setIfInBounds_toArray, List.set_cons_zero, List.set_cons_succ, i64_w, i32_w]
                                    rfl
                                  refine pure_ (i := 3) (N := some 93) (v := ?_) (a' := ?_) #[true, true, true, true, false, false, false, false, false, false] rfl rfl (any_of HT_.out (by kernel_rfl)) (fun _ _ _ h => h) (Or.inl ⟨by rfl, ?_⟩) ?_ ?_
                                  rotate_left
                                  · intro w'
                                    go_simp
                                    with_reducible rfl
                                  rotate_left
                                  · simp only [Act.put, List.setIfInBounds_toArray, List.set_cons_zero, List.set_cons_succ, i64_w, i32_w]
                                    rfl
                                  refine pure_ (i := 4) (N := some 94) (v := ?_) (a' := ?_) #[true, true, true, true, true, false, false, false, false, false] rfl rfl (any_of HT_.out (by kernel_rfl)) (fun _ _ _ h => h) (Or.inl ⟨by rfl, ?_⟩) ?_ ?_
                                  rotate_left
                                  · intro w'
                                    go_simp
                                    with_reducible rfl
                                  rotate_left
                                  · simp only [Act.put, List.setIfInBounds_toArray, List.set_cons_zero, List.set_cons_succ, i64_w, i32_w]
                                    rfl
                                  refine take_ (i := 5) (N := some 95) (v := ?_) (a' := ?_) #[true, true, true, true, true, true, false, false, false, false] rfl rfl (take_ofW HT_.out HW_.out (by kernel_rfl)) (fun _ _ _ h => h) (Or.inl ⟨by rfl, ?_⟩) hHeld ?_ ?_
                                  rotate_left
                                  · rintro w' ⟨s0, s1, s2⟩
                                    go_simp
                                    with_reducible rfl
                                  rotate_left
                                  · simp only [Act.put, List.setIfInBounds_toArray, List.set_cons_zero, List.set_cons_succ, i64_w, i32_w]
                                    rfl
                                  refine take_ (i := 6) (N := some 96) (v := ?_) (a' := ?_) #[true, true, true, true, true, true, true, false, false, false] rfl rfl (take_ofW HT_.out HW_.out (by kernel_rfl)) (fun _ _ _ h => h) (Or.inl ⟨by rfl, ?_⟩) hHeld ?_ ?_
                                  rotate_left
                                  · rintro w' ⟨s0, s1, s2⟩
                                    go_simp
                                    with_reducible rfl
                                  rotate_left
                                  · simp only [Act.put, List.setIfInBounds_toArray, List.set_cons_zero, List.set_cons_succ, i64_w, i32_w]
                                    rfl
                                  refine one_ (i := 7) (N := some 97) #[true, true, true, true, true, true, true, true, false, false] rfl rfl (one_of HT_.out (by kernel_rfl)) (by decide) (fun K hK => ?_)
                                  refine goes_ Try.func28 (by kernel_rfl) rfl #[.slice A353_0 (rd_L4 x9_4 x87_4).length c353_0, .agg #[.string t341, .string t342]] (by rfl) rfl rfl (by (try simp only [List.map_toArray, List.map_cons, List.map_nil]); first | done | rfl | (simp only [List.length_drop, List.length_take]; rfl)) ?_
                                  with_reducible refine (naive_Join.calls k4 _ _ (rd_L4 x9_4 x87_4) t341 t342 t354 _ ?side1 ?side2 A60.out).mono ?_
                                  (case side1 => repeat (first | exact (by repeat (first | (with_reducible exact HR353_0.out) | (with_reducible refine Kd.C_alloc ?_ _) | (with_reducible refine Kd.C_drewN ?_ _) | (with_reducible refine Kd.C_drew ?_) | exact HR353_0.out)) | (with_reducible refine Kd.C_alloc ?_ _) | (with_reducible refine Kd.C_drewN ?_ _) | (with_reducible refine Kd.C_drew ?_)))
                                  (case side2 => exact HC353_0.out)
                                  rintro e w63 ⟨v355, rfl, ho0, hb⟩
                                  have HS2_ := (hb.cell (World.block_lt_of_cell? _ _ (hHeld.2.2))).trans (hHeld.2.2)
                                  refine ⟨_, rfl, ?_⟩
                                  have n0_ := Aside0.mk (Kd.N_elder' (by (with_reducible repeat (first | apply Kd.N_alloc | apply Kd.N_drewN | apply Kd.N_drew)); exact HO_9.out) (Kd.R_base ho0) hb)
                                  have n1_ := Aside0.mk (Kd.R_below (by (with_reducible repeat (first | apply Kd.R_alloc | apply Kd.R_drewN | apply Kd.R_drew)); exact HO_10.out) hb)
                                  have n2_ := Aside0.mk (Kd.R_below (by (with_reducible repeat (first | apply Kd.R_alloc | apply Kd.R_drewN | apply Kd.R_drew)); exact HO_16.out) hb)
                                  have n3_ := Aside0.mk (Kd.V_elder' (by (with_reducible repeat (first | apply Kd.V_alloc | apply Kd.V_drewN | apply Kd.V_drew)); exact HL353_0.out) (Kd.R_base ho0) hb)
                                  have n4_ := Aside0.mk (Kd.R_lower ho0 (below_size (by repeat (first | (with_reducible first | exact HB.out | apply below_alloc | apply pw_below_drewN | apply below_drew1 | refine below_set ?_ GE344.out) | exact HB.out))))
                                  have n5_ := Aside0.mk (blk_below (g := gb344) (o := .cells #[.string t341, .string t342] 45 (0, 0)) (by (with_reducible repeat (first | refine blk_drewN ?_ _ | refine blk_drew ?_ | refine blk_alloc ?_ _)); exact BK344.out) hb)
                                  have n6_ := Aside0.mk (Kd.C_below (by repeat (first | (with_reducible exact HR353_0.out) | (with_reducible refine Kd.C_alloc ?_ _) | (with_reducible refine Kd.C_drewN ?_ _) | (with_reducible refine Kd.C_drew ?_) | exact HR353_0.out)) hb)
                                  have n7_ := Aside0.mk (below_step (by repeat (first | (with_reducible first | exact HB.out | apply below_alloc | apply pw_below_drewN | apply below_drew1 | refine below_set ?_ GE344.out) | exact HB.out)) hb)
                                  clear HO_9
                                  clear HO_10
                                  clear HO_16
                                  clear HL353_0
                                  clear BK344
                                  clear HR353_0
                                  clear HB
                                  have HO_9 := n0_
                                  have HO_10 := n1_
                                  have HO_16 := n2_
                                  have HL353_0 := n3_
                                  have HO356 := n4_
                                  have BK344 := n5_
                                  have HR353_0 := n6_
                                  have HB := n7_
                                  clear n0_ n1_ n2_ n3_ n4_ n5_ n6_ n7_
                                  (try clear hb)
                                  (try clear hb2)
                                  (try clear hk)
                                  (try clear hi)
                                  (try clear ho0)
                                  have p61 : 0 ≤ (x87_4 : Int) := of_decide_eq_true (by first | (with_reducible assumption) | assumption)
                                  have q61 : (x87_4 : Int) < ((x9_4.length : Int) : Int) := of_decide_eq_true (by first | (with_reducible assumption) | assumption)
                                  obtain ⟨go61, co61, eo61, gb61, gl61, cl61, HG61⟩ := Kd.N_form HO_9.out (by omega)
                                  (first | cases eo61 | (injection eo61 with ea_ en_ ec_; (first | subst ea_ | (injection ea_ with ea_; subst ea_)); subst ec_; clear en_))
                                  have GB61 := Aside0.mk gb61
                                  have GG61 := Aside0.mk HG61
                                  clear gb61 gl61 HG61
                                  (first | simp only [add_plain] at hx353_0 | skip)
                                  obtain ⟨ce61, hcl61, hM61, hcc61, hfr61⟩ := Kd.N_elem HO_9.out [] (x87_4 : Int) p61 q61
                                  obtain ⟨ua61_0, uc61_0, rfl, ul61_0, ge61_0⟩ := Kd.FK_slice_open hM61
                                  have hx61_0 := hcc61 0 _ rfl
                                  have hf61_0 := hfr61 0
                                  (try simp only [show ((Kd.slice 9 Kd.string)).sz = 1 from rfl, Nat.mul_one, Nat.add_zero] at hx61_0)
                                  (try simp only [show ((Kd.slice 9 Kd.string)).sz = 1 from rfl, Nat.mul_one, Nat.add_zero] at hf61_0)
                                  clear hcl61 hcc61 hfr61 hM61
                                  replace p61 := eq_true p61
                                  replace q61 := eq_true q61
                                  obtain ⟨Az_, cz_, ez_⟩ := Kd.R_slice HO356.out
                                  subst ez_
                                  have HX64 := Aside0.mk (show Kd.N (Kd.slice 9 Kd.string) 46 _ w.heap.size (fun k_ => some k_ ≠ (.slice Ao45 x10_2.length co45 : Value).ownBlock ∧ some k_ ≠ (v351 : Value).ownBlock ∧ some k_ ≠ (.slice Az_ t354.length cz_ : Value).ownBlock ∧ k_ ≠ gb344) (.slice (some ⟨go61, 0, none⟩) x9_4.length co44) x9_4 from (Kd.N_mono (HO_9.out) (fun k_ hk => ⟨hk.1.1, ⟨hk.1.2.1, ⟨hk.2, hk.1.2.2⟩⟩⟩)))
                                  replace HX64 := Aside0.mk (show Kd.N (Kd.slice 9 Kd.string) 46 _ w.heap.size (fun k_ => some k_ ≠ (.slice Ao45 x10_2.length co45 : Value).ownBlock ∧ some k_ ≠ (v351 : Value).ownBlock ∧ k_ ≠ gb344) (.slice (some ⟨go61, 0, none⟩) x9_4.length co44) x9_4 from Kd.N_mono HX64.out (fun k_ hk => ⟨hk.1, ⟨hk.2.1, hk.2.2.2⟩⟩))
                                  obtain ⟨ce64, hcl64, hM64, hcc64, hfr64⟩ := Kd.N_elem HX64.out [] (x87_4 : Int) (of_decide_eq_true (by first | (with_reducible assumption) | assumption)) (by have h_ : (x87_4 : Int) < ((x9_4.length : Int) : Int) := of_decide_eq_true (by first | (with_reducible assumption) | assumption); first | exact h_ | (have e_ := (Kd.N_reads' HO_9.out).1; omega) | simpa using h_)
                                  obtain ⟨ua64_0, uc64_0, rfl, ul64_0, ge64_0⟩ := Kd.FK_slice_open hM64
                                  have HZ_ := Aside0.mk (Kd.R_types (Kd.R_apart' (Kd.R_apart' (Kd.R_apart' (HO356.out) (Kd.R_typed HO_10.out) (by decide)) (Kd.R_typed HO_16.out) (by decide)) (Kd.N_typed HO_9.out) (by decide)) BK344.out (by decide))
                                  have HY_ := Aside0.mk (Kd.R_mono (ok' := (fun k_ => ((fun k_ => some k_ ≠ (.slice Ao45 x10_2.length co45 : Value).ownBlock ∧ some k_ ≠ (v351 : Value).ownBlock ∧ k_ ≠ gb344)) k_ ∧ k_ ≠ go61)) HZ_.out (fun k_ hk => ⟨⟨hk.1.1.1.2, ⟨hk.1.1.2, hk.2⟩⟩, fun e_ => (hk.1.2) (by rw [e_]; rfl)⟩))
                                  have HP64 := (Kd.N_seg HX64.out (x87_4 : Int) (of_decide_eq_true (by first | (with_reducible assumption) | assumption)) (by have h_ : (x87_4 : Int) < ((x9_4.length : Int) : Int) := of_decide_eq_true (by first | (with_reducible assumption) | assumption); first | exact h_ | (have e_ := (Kd.N_reads' HO_9.out).1; omega) | simpa using h_) (seg := [(.slice Az_ t354.length cz_ : Value)]) (j := 0) hcl64 hcc64 (show 1 ≤ 1 from by decide) (x' := t354) (Kd.FK_slice_mk (Kd.R_reads' HY_.out).2.1 (Kd.R_F HY_.out)) (fun _ hk => hk)).1
                                  (try simp only [show ((Kd.slice 9 Kd.string)).sz = 1 from rfl, Nat.mul_one, Nat.add_zero] at HP64)
                                  rw [← Ny357.out] at HP64
                                  have HQ64 := Aside0.mk HP64
                                  clear hcl64 hcc64 hfr64 hM64 HP64
                                  refine hK.out _ _ ⟨(blk_cell BK344.out 0).trans rfl, (blk_cell BK344.out 1).trans rfl, HS2_⟩ (fun hHeld => ?_)
                                  clear hK K
                                  refine norm_ (a' := ?_) ?_ ?_
                                  rotate_left
                                  · show Act.put _ (some 97) _ = _
                                    simp only [Act.put, List.setIfInBounds_toArray, List.set_cons_zero, List.set_cons_succ, i64_w, i32_w]
                                    rfl
                                  refine pure_ (i := 8) (N := some 98) (v := ?_) (a' := ?_) #[true, true, true, true, true, true, true, true, true, false] rfl rfl (any_of HT_.out (by kernel_rfl)) (fun _ _ _ h => h) (Or.inl ⟨by rfl, ?_⟩) ?_ ?_
                                  rotate_left
                                  · intro w'
                                    go_simp
                                    with_reducible rfl
                                  rotate_left
                                  · simp only [Act.put, List.setIfInBounds_toArray, List.set_cons_zero, List.set_cons_succ, i64_w, i32_w]
                                    rfl
                                  refine last_ (i := 9) (N := none) #[true, true, true, true, true, true, true, true, true, true] rfl rfl (one_of HT_.out (by kernel_rfl)) (by decide) (fun K hK => ?_)
                                  refine skip_ (w1 := ?_) (by rfl) rfl ?_ ?_
                                  rotate_left
                                  · go_simp
                                    rfl
                                  refine hK.out _ _ ?_
                                  clear hK K
                                  refine done_ (done_of HT_.out (by kernel_rfl)) ?_
                                  try go_wp2
                                  (try simp only [← hl9_4])
                                  go_roundg k4
                                  case measure => have := HJ4.out; have := HK2.out; have := HK3.out; have := HK4.out; omega
                                  case rel => exact ⟨(y357), (wrap64 (x87_4 + 1)), (by first | rfl | (simp; done) | (simp [*]; done)), H', ⟨by have := HJ4.out; have := HK2.out; have := HK3.out; have := HK4.out; omega⟩, ⟨by (try simp only [hl9_4]); (with_reducible repeat (first | apply Kd.N_alloc | apply Kd.N_drewN | apply Kd.N_drew)); exact HQ64.out⟩, ⟨by (try simp only [hl9_4]); (with_reducible repeat (first | apply Kd.R_alloc | apply Kd.R_drewN | apply Kd.R_drew)); exact Kd.R_mono (Kd.R_far (p := ⟨go61, (x87_4 : Int).toNat, none⟩) (Kd.R_types HO_10.out GG61.out (by decide)) (fun _ hk => hk.2) ((.slice Az_ t354.length cz_ : Value))) (fun _ hk => trivial)⟩, ⟨by (try simp only [hl9_4]); (with_reducible repeat (first | apply Kd.R_alloc | apply Kd.R_drewN | apply Kd.R_drew)); exact Kd.R_mono (Kd.R_far (p := ⟨go61, (x87_4 : Int).toNat, none⟩) (Kd.R_types HO_16.out GG61.out (by decide)) (fun _ hk => hk.2) ((.slice Az_ t354.length cz_ : Value))) (fun _ hk => hk.1)⟩, ⟨by (try simp only [hl9_4]); (with_reducible repeat (first | refine blk_drewN ?_ _ | refine blk_drew ?_ | refine blk_alloc ?_ _)); refine blk_far ?_ (by first | (have h_ := Kd.N_away HO_9.out (fun _ hk => hk.2.2); intro e_; exact h_ (by rw [e_]; rfl)) | (have h_ := Kd.N_away HO_9.out (fun _ hk => hk.1.2.2); intro e_; exact h_ (by rw [e_]; rfl)) | (have h_ := Kd.N_away HO_9.out (fun _ hk => hk.2.2.2); intro e_; exact h_ (by rw [e_]; rfl))) _; (with_reducible repeat (first | refine blk_drewN ?_ _ | refine blk_drew ?_ | refine blk_alloc ?_ _)); exact BK344.out⟩, ⟨by repeat (first | (with_reducible first | exact HB.out | apply below_alloc | apply pw_below_drewN | apply below_drew1 | refine below_set ?_ GB61.out | refine below_set ?_ GE344.out) | exact HB.out)⟩⟩
                                · rw [if_neg c59] at H
                                  exact absurd H (by simp)
                              · rw [if_neg c58] at H
                                exact absurd H (by simp)
                            · rw [if_neg c57] at H
                              have c57b0 : decide (x87_4 < (x9_3.length : Int)) = false := decide_eq_false c57
                              (try simp only [hl9_4] at c57b0)
                              clear c57
                              have H' := Aside0.mk H
                              clear H
                              go_wp2
                              (try simp only [← hl9_4])
                              go_roundg k4
                              case measure => have := HJ4.out; have := HK2.out; have := HK3.out; have := HK4.out; omega
                              case rel => exact ⟨(x9_4), (y350), H', ⟨by have := HJ4.out; have := HK2.out; have := HK3.out; have := HK4.out; omega⟩, ⟨by (try simp only [hl9_4]); (with_reducible repeat (first | apply Kd.N_alloc | apply Kd.N_drewN | apply Kd.N_drew)); exact Kd.N_mono HO_9.out (fun _ hk => ⟨hk.1, hk.2.1⟩)⟩, ⟨by (try simp only [hl9_4]); (with_reducible repeat (first | apply Kd.R_alloc | apply Kd.R_drewN | apply Kd.R_drew)); exact HO_10.out⟩, ⟨by (try simp only [hl9_4]); (with_reducible repeat (first | apply Kd.R_alloc | apply Kd.R_drewN | apply Kd.R_drew)); exact Kd.R_mono HO_16.out (fun _ hk => trivial)⟩, ⟨by repeat (first | (with_reducible first | exact HB.out | apply below_alloc | apply pw_below_drewN | apply below_drew1 | refine below_set ?_ GE344.out) | exact HB.out)⟩⟩
                      · rw [if_neg c42] at H
                        exact absurd H (by simp)
                  · rw [if_neg c31] at H
                    have c31b0 : decide ((x16_3.length : Int) < a1) = false := decide_eq_false c31
                    clear c31
                    obtain rfl := Option.some.inj H
                    obtain ⟨Ao65, co65, eo65⟩ := Kd.R_slice HO_16.out
                    subst eo65
                    go_wp2
                    go_ret
                    exact ⟨_, by first | rfl | (simp [errW_none, errW_some] <;> rfl) | (simp [*, errW_none, errW_some] <;> rfl), by (with_reducible repeat (first | apply Kd.R_alloc | apply Kd.R_drewN | apply Kd.R_drew)); exact HO_16.out, by repeat (first | (with_reducible first | exact HB.out | apply below_alloc | apply pw_below_drewN | apply below_drew1) | exact HB.out)⟩

end Go.Proofs.Ytbfjlfbahjmibaa.Pr
