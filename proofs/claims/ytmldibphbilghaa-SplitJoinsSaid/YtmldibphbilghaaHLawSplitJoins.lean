/- The law SplitJoins, walked: the call answers what the function SplitJoins.f tells. (The text of wip/pr.py; two sizes by hand.) -/
import Derived.Test.YtmldibphbilghaaPr0
import Derived.Test.YtmldibphbilghaaPr10
import Derived.Test.YtmldibphbilghaaHLaw03
import Derived.Test.YtmldibphbilghaaHSplit
namespace Go.Proofs.Ytmldibphbilghaa.Pr
open Go.RowKit Go.Proofs.YtmldibphbilghaaW.PrintWords Go.Proofs.YtmldibphbilghaaW.PrintLast Go.Proofs.YtmldibphbilghaaW.PrintMore
attribute [local go_sem] max2_int min2_int max_two min_two max_three min_three max_four min_four   -- for this text's walks alone
set_option linter.unusedVariables false
set_option linter.unusedSimpArgs false

theorem ext_size (a : Nat) (b : Int) (h : b ≤ 4) : ((⟨#[9, 10, 13, 32]⟩ : ByteArray).extract a b.toNat).size = b.toNat - a := by
  rw [ByteArray.size_extract]
  have : (⟨#[9, 10, 13, 32]⟩ : ByteArray).size = 4 := rfl
  omega

/-! ### gluepotlaw03_SplitJoins: function 6 -/
mutual
def gluepotlaw03_SplitJoins.l0 : Nat → Int → List ByteArray → ByteArray → Int → Option (Bool)
  | 0, _, _, _, _ => none
  | k + 1, x1, x5, x6, x7 => if x7 < (x5.length : Int) then (gluepotlaw03_SplitJoins.j1 k x1 x5 x6 x7 (decide (x7 ≤ 3000))) else (gluepotlaw03_SplitJoins.j1 k x1 x5 x6 x7 false)
def gluepotlaw03_SplitJoins.j1 : Nat → Int → List ByteArray → ByteArray → Int → Bool → Option (Bool)
  | 0, _, _, _, _, _ => none
  | k + 1, x1, x5, x6, x7, x23 => if x23 = true then (gluepotlaw03_SplitJoins.l1 k x1 x5 x6 x7 0) else ((split_Words.f x6).bind fun t130 => ((gluepotref01_Texts.f k t130 x5).bind fun t133 => (some t133)))
def gluepotlaw03_SplitJoins.l1 : Nat → Int → List ByteArray → ByteArray → Int → Int → Option (Bool)
  | 0, _, _, _, _, _ => none
  | k + 1, x1, x5, x6, x7, x8 => if 0 ≤ x7 then (if x7 < (x5.length : Int) then (if x8 < ((rdOf ByteArray.empty x5 x7).size : Int) then (if 0 ≤ x8 then ((split_Gap.f (bt (rdOf ByteArray.empty x5 x7) x8)).bind fun t136 => (if t136 = true then (some false) else (gluepotlaw03_SplitJoins.l1 k x1 x5 x6 x7 (wrap64 (x8 + 1))))) else (none)) else (if x6.size + (rdOf ByteArray.empty x5 x7).size ≤ 9223372036854775807 then (if 0 ≤ (Int.tmod (wrap64 ((wrap64 (x1)) + x7)) 4) then (if (Int.tmod (wrap64 ((wrap64 (x1)) + x7)) 4) ≤ (wrap64 ((Int.tmod (wrap64 ((wrap64 (x1)) + x7)) 4) + 1)) then (if (wrap64 ((Int.tmod (wrap64 ((wrap64 (x1)) + x7)) 4) + 1)) ≤ 4 then (if (x6 ++ (rdOf ByteArray.empty x5 x7)).size + ((⟨#[9, 10, 13, 32]⟩ : ByteArray).extract ((Int.tmod (wrap64 ((wrap64 (x1)) + x7)) 4) : Int).toNat ((wrap64 ((Int.tmod (wrap64 ((wrap64 (x1)) + x7)) 4) + 1)) : Int).toNat).size ≤ 9223372036854775807 then (if (rdOf ByteArray.empty x5 x7).toList = ([] : List UInt8) then (some false) else (if (((x6 ++ (rdOf ByteArray.empty x5 x7)) ++ ((⟨#[9, 10, 13, 32]⟩ : ByteArray).extract ((Int.tmod (wrap64 ((wrap64 (x1)) + x7)) 4) : Int).toNat ((wrap64 ((Int.tmod (wrap64 ((wrap64 (x1)) + x7)) 4) + 1)) : Int).toNat)).size : Int) > 7000 then (some false) else (gluepotlaw03_SplitJoins.l0 k x1 x5 ((x6 ++ (rdOf ByteArray.empty x5 x7)) ++ ((⟨#[9, 10, 13, 32]⟩ : ByteArray).extract ((Int.tmod (wrap64 ((wrap64 (x1)) + x7)) 4) : Int).toNat ((wrap64 ((Int.tmod (wrap64 ((wrap64 (x1)) + x7)) 4) + 1)) : Int).toNat)) (wrap64 (x7 + 1))))) else (none)) else (none)) else (none)) else (none)) else (none))) else (none)) else (none)
end
def gluepotlaw03_SplitJoins.f (k : Nat) (a0 : ByteArray) (a1 : Int) : Option (Bool) := (gluepotlaw03_awake.f).bind fun t126 => (if t126 = true then (if (a0.size : Int) > 3000 then (some true) else ((split_Words.f a0).bind fun t127 => (gluepotlaw03_SplitJoins.l0 k a1 t127 (⟨#[]⟩ : ByteArray) 0))) else (some false))
theorem gluepotlaw03_SplitJoins.mono_l : ∀ k, (∀ y0 y1 y2 y3, LeO (gluepotlaw03_SplitJoins.l0 k y0 y1 y2 y3) (gluepotlaw03_SplitJoins.l0 (k + 1) y0 y1 y2 y3)) ∧ (∀ y0 y1 y2 y3 y4, LeO (gluepotlaw03_SplitJoins.j1 k y0 y1 y2 y3 y4) (gluepotlaw03_SplitJoins.j1 (k + 1) y0 y1 y2 y3 y4)) ∧ (∀ y0 y1 y2 y3 y4, LeO (gluepotlaw03_SplitJoins.l1 k y0 y1 y2 y3 y4) (gluepotlaw03_SplitJoins.l1 (k + 1) y0 y1 y2 y3 y4))
  | 0 => ⟨fun _ _ _ _ r h => by simp [gluepotlaw03_SplitJoins.l0] at h, fun _ _ _ _ _ r h => by simp [gluepotlaw03_SplitJoins.j1] at h, fun _ _ _ _ _ r h => by simp [gluepotlaw03_SplitJoins.l1] at h⟩
  | k + 1 => by
    obtain ⟨ih0, ih1, ih2⟩ := gluepotlaw03_SplitJoins.mono_l k
    refine ⟨?_, ?_, ?_⟩
    · intro y0 y1 y2 y3
      unfold gluepotlaw03_SplitJoins.l0
      repeat' first
      | (with_reducible exact ih0 _ _ _ _)
      | (with_reducible exact ih1 _ _ _ _ _)
      | (with_reducible exact ih2 _ _ _ _ _)
      | (with_reducible exact gluepotref01_Texts.mono _ _ _)
      | (with_reducible exact LeO.refl _)
      | (with_reducible exact LeO.none _)
      | (with_reducible refine LeO.ite ?_ ?_)
      | (with_reducible refine LeO.bind ?_ (fun _ => ?_))
      | exact ih0 _ _ _ _
      | exact ih1 _ _ _ _ _
      | exact ih2 _ _ _ _ _
      | exact gluepotref01_Texts.mono _ _ _
      | exact LeO.none _
      | refine LeO.ite ?_ ?_
      | refine LeO.bind ?_ (fun _ => ?_)
    · intro y0 y1 y2 y3 y4
      unfold gluepotlaw03_SplitJoins.j1
      repeat' first
      | (with_reducible exact ih0 _ _ _ _)
      | (with_reducible exact ih1 _ _ _ _ _)
      | (with_reducible exact ih2 _ _ _ _ _)
      | (with_reducible exact gluepotref01_Texts.mono _ _ _)
      | (with_reducible exact LeO.refl _)
      | (with_reducible exact LeO.none _)
      | (with_reducible refine LeO.ite ?_ ?_)
      | (with_reducible refine LeO.bind ?_ (fun _ => ?_))
      | exact ih0 _ _ _ _
      | exact ih1 _ _ _ _ _
      | exact ih2 _ _ _ _ _
      | exact gluepotref01_Texts.mono _ _ _
      | exact LeO.none _
      | refine LeO.ite ?_ ?_
      | refine LeO.bind ?_ (fun _ => ?_)
    · intro y0 y1 y2 y3 y4
      unfold gluepotlaw03_SplitJoins.l1
      repeat' first
      | (with_reducible exact ih0 _ _ _ _)
      | (with_reducible exact ih1 _ _ _ _ _)
      | (with_reducible exact ih2 _ _ _ _ _)
      | (with_reducible exact gluepotref01_Texts.mono _ _ _)
      | (with_reducible exact LeO.refl _)
      | (with_reducible exact LeO.none _)
      | (with_reducible refine LeO.ite ?_ ?_)
      | (with_reducible refine LeO.bind ?_ (fun _ => ?_))
      | exact ih0 _ _ _ _
      | exact ih1 _ _ _ _ _
      | exact ih2 _ _ _ _ _
      | exact gluepotref01_Texts.mono _ _ _
      | exact LeO.none _
      | refine LeO.ite ?_ ?_
      | refine LeO.bind ?_ (fun _ => ?_)
theorem gluepotlaw03_SplitJoins.mono : ∀ a0 a1 k, LeO (gluepotlaw03_SplitJoins.f k a0 a1) (gluepotlaw03_SplitJoins.f (k + 1) a0 a1) := by
  intro a0 a1 k
  obtain ⟨ih0, ih1, ih2⟩ := gluepotlaw03_SplitJoins.mono_l k
  unfold gluepotlaw03_SplitJoins.f
  repeat' first
      | (with_reducible exact ih0 _ _ _ _)
      | (with_reducible exact ih1 _ _ _ _ _)
      | (with_reducible exact ih2 _ _ _ _ _)
      | (with_reducible exact gluepotref01_Texts.mono _ _ _)
      | (with_reducible exact LeO.refl _)
      | (with_reducible exact LeO.none _)
      | (with_reducible refine LeO.ite ?_ ?_)
      | (with_reducible refine LeO.bind ?_ (fun _ => ?_))
      | exact ih0 _ _ _ _
      | exact ih1 _ _ _ _ _
      | exact ih2 _ _ _ _ _
      | exact gluepotref01_Texts.mono _ _ _
      | exact LeO.none _
      | refine LeO.ite ?_ ?_
      | refine LeO.bind ?_ (fun _ => ?_)
set_option maxHeartbeats 8000000 in
set_option maxRecDepth 100000 in
theorem gluepotlaw03_SplitJoins.calls (k : Nat) (a0 : ByteArray) (a1 : Int) (r : Bool) (w : World) (h : gluepotlaw03_SplitJoins.f k a0 a1 = some r) :
    Calls Try.prog 6 #[.string a0, .int .u8 a1] w fun e w' => e = .returned (.bool r) ∧ Below w.heap.size w w' := by
  have HB := Aside0.mk (Below.refl w.heap.size w)
  have H : ((gluepotlaw03_awake.f).bind fun t126 => (if t126 = true then (if (a0.size : Int) > 3000 then (some true) else ((split_Words.f a0).bind fun t127 => (gluepotlaw03_SplitJoins.l0 k a1 t127 (⟨#[]⟩ : ByteArray) 0))) else (some false))) = some r := h
  clear h
  replace H := Option.bind_eq_some_iff.mp H
  obtain ⟨t126, A30, H⟩ := H
  replace H : (if t126 = true then (if (a0.size : Int) > 3000 then (some true) else ((split_Words.f a0).bind fun t127 => (gluepotlaw03_SplitJoins.l0 k a1 t127 (⟨#[]⟩ : ByteArray) 0))) else (some false)) = some r := H
  have A3 := Aside0.mk A30
  clear A30
  by_cases c4 : t126 = true
  · subst c4
    have H1 : (if (a0.size : Int) > 3000 then (some true) else ((split_Words.f a0).bind fun t127 => (gluepotlaw03_SplitJoins.l0 k a1 t127 (⟨#[]⟩ : ByteArray) 0))) = some r := by rw [if_pos rfl] at H; exact H
    clear H
    have H := H1
    clear H1
    by_cases c5 : (a0.size : Int) > 3000
    · rw [if_pos c5] at H
      have c5b0 : decide (3000 < (a0.size : Int)) = true := decide_eq_true c5
      have c5b1 : decide (3000 < a0.size) = true := decide_eq_true (by omega)
      clear c5
      obtain rfl := Option.some.inj H
      go_enter Try.func6, Try.ntmps6
      go_wp2_with (first | (go_at_call 13; (with_reducible refine (gluepotlaw03_awake.calls  true _ A3.out).mono ?_); rintro e w6 ⟨rfl, hb⟩; have n0_ := Aside0.mk (below_step (by repeat (first | (with_reducible first | exact HB.out | apply below_alloc | apply pw_below_drewN | apply below_drew1) | exact HB.out)) hb); clear HB; have HB := n0_; clear n0_; (try clear hb); (try clear hb2); (try clear hk); (try clear hi)))
      repeat (go_quiet (first | (go_at_call 13; (with_reducible refine (gluepotlaw03_awake.calls  true _ A3.out).mono ?_); rintro e w6 ⟨rfl, hb⟩; have n0_ := Aside0.mk (below_step (by repeat (first | (with_reducible first | exact HB.out | apply below_alloc | apply pw_below_drewN | apply below_drew1) | exact HB.out)) hb); clear HB; have HB := n0_; clear n0_; (try clear hb); (try clear hb2); (try clear hk); (try clear hi))); try go_wp2_with (first | (go_at_call 13; (with_reducible refine (gluepotlaw03_awake.calls  true _ A3.out).mono ?_); rintro e w6 ⟨rfl, hb⟩; have n0_ := Aside0.mk (below_step (by repeat (first | (with_reducible first | exact HB.out | apply below_alloc | apply pw_below_drewN | apply below_drew1) | exact HB.out)) hb); clear HB; have HB := n0_; clear n0_; (try clear hb); (try clear hb2); (try clear hk); (try clear hi))))
      go_ret
      exact ⟨by first | rfl | (simp [errW_none, errW_some] <;> rfl) | (simp [*, errW_none, errW_some] <;> rfl), by repeat (first | (with_reducible first | exact HB.out | apply below_alloc | apply pw_below_drewN | apply below_drew1) | exact HB.out)⟩
    · rw [if_neg c5] at H
      have c5b0 : decide (3000 < (a0.size : Int)) = false := decide_eq_false c5
      have c5b1 : decide (3000 < a0.size) = false := decide_eq_false (by omega)
      clear c5
      replace H := Option.bind_eq_some_iff.mp H
      obtain ⟨t127, A70, H⟩ := H
      replace H : (gluepotlaw03_SplitJoins.l0 k a1 t127 (⟨#[]⟩ : ByteArray) 0) = some r := H
      have A7 := Aside0.mk A70
      clear A70
      have H' := Aside0.mk H
      clear H
      go_enter Try.func6, Try.ntmps6
      go_wp2_with (first | (go_at_call 13; (with_reducible refine (gluepotlaw03_awake.calls  true _ A3.out).mono ?_); rintro e w8 ⟨rfl, hb⟩; have n0_ := Aside0.mk (below_step (by repeat (first | (with_reducible first | exact HB.out | apply below_alloc | apply pw_below_drewN | apply below_drew1) | exact HB.out)) hb); clear HB; have HB := n0_; clear n0_; (try clear hb); (try clear hb2); (try clear hk); (try clear hi)) | (go_at_call 24; (with_reducible refine (split_Words.calls a0 t127 _ A7.out).mono ?_); rintro e w9 ⟨v128, rfl, ho0, hb⟩; have n0_ := Aside0.mk (Kd.R_lower ho0 (below_size (by repeat (first | (with_reducible first | exact HB.out | apply below_alloc | apply pw_below_drewN | apply below_drew1) | exact HB.out)))); have n1_ := Aside0.mk (below_step (by repeat (first | (with_reducible first | exact HB.out | apply below_alloc | apply pw_below_drewN | apply below_drew1) | exact HB.out)) hb); clear HB; have HO129 := n0_; have HB := n1_; clear n0_ n1_; (try clear hb); (try clear hb2); (try clear hk); (try clear hi); (try clear ho0)))
      repeat (go_quiet (first | (go_at_call 13; (with_reducible refine (gluepotlaw03_awake.calls  true _ A3.out).mono ?_); rintro e w8 ⟨rfl, hb⟩; have n0_ := Aside0.mk (below_step (by repeat (first | (with_reducible first | exact HB.out | apply below_alloc | apply pw_below_drewN | apply below_drew1) | exact HB.out)) hb); clear HB; have HB := n0_; clear n0_; (try clear hb); (try clear hb2); (try clear hk); (try clear hi)) | (go_at_call 24; (with_reducible refine (split_Words.calls a0 t127 _ A7.out).mono ?_); rintro e w9 ⟨v128, rfl, ho0, hb⟩; have n0_ := Aside0.mk (Kd.R_lower ho0 (below_size (by repeat (first | (with_reducible first | exact HB.out | apply below_alloc | apply pw_below_drewN | apply below_drew1) | exact HB.out)))); have n1_ := Aside0.mk (below_step (by repeat (first | (with_reducible first | exact HB.out | apply below_alloc | apply pw_below_drewN | apply below_drew1) | exact HB.out)) hb); clear HB; have HO129 := n0_; have HB := n1_; clear n0_ n1_; (try clear hb); (try clear hb2); (try clear hk); (try clear hi); (try clear ho0))); try go_wp2_with (first | (go_at_call 13; (with_reducible refine (gluepotlaw03_awake.calls  true _ A3.out).mono ?_); rintro e w8 ⟨rfl, hb⟩; have n0_ := Aside0.mk (below_step (by repeat (first | (with_reducible first | exact HB.out | apply below_alloc | apply pw_below_drewN | apply below_drew1) | exact HB.out)) hb); clear HB; have HB := n0_; clear n0_; (try clear hb); (try clear hb2); (try clear hk); (try clear hi)) | (go_at_call 24; (with_reducible refine (split_Words.calls a0 t127 _ A7.out).mono ?_); rintro e w9 ⟨v128, rfl, ho0, hb⟩; have n0_ := Aside0.mk (Kd.R_lower ho0 (below_size (by repeat (first | (with_reducible first | exact HB.out | apply below_alloc | apply pw_below_drewN | apply below_drew1) | exact HB.out)))); have n1_ := Aside0.mk (below_step (by repeat (first | (with_reducible first | exact HB.out | apply below_alloc | apply pw_below_drewN | apply below_drew1) | exact HB.out)) hb); clear HB; have HO129 := n0_; have HB := n1_; clear n0_ n1_; (try clear hb); (try clear hb2); (try clear hk); (try clear hi); (try clear ho0))))
      go_loopg [6, 7] k (fun kq v6 v7 w' => ∃ (x6_1 : ByteArray) (x7_1 : Int), v6 = .string x6_1 ∧ v7 = .int .i64 x7_1 ∧ Aside0 (gluepotlaw03_SplitJoins.l0 kq a1 t127 x6_1 x7_1 = some r) ∧ Aside0 (kq ≤ k) ∧ Aside0 (Kd.R Kd.string 9 w' w.heap.size (fun _ => True) v128 t127) ∧ Aside0 (Below w.heap.size w w'))
      case atStart => exact ⟨((⟨#[]⟩ : ByteArray)), (0), (by first | rfl | (simp; done) | (simp [*]; done)), (by first | rfl | (simp; done) | (simp [*]; done)), H', ⟨Nat.le_refl _⟩, ⟨by (with_reducible repeat (first | apply Kd.R_alloc | apply Kd.R_drewN | apply Kd.R_drew)); exact HO129.out⟩, ⟨by repeat (first | (with_reducible first | exact HB.out | apply below_alloc | apply pw_below_drewN | apply below_drew1) | exact HB.out)⟩⟩
      case round =>
        clear H'
        try clear p2
        try clear c4
        try clear c5
        try clear c5b0
        try clear c5b1
        try clear c6
        obtain ⟨x6_1, x7_1, rfl, rfl, HA, HK1, HO_5, HB⟩ := hrel
        cases gk with
        | zero => exact absurd HA.out (by simp [gluepotlaw03_SplitJoins.l0])
        | succ k1 =>
          have H := HA.out
          clear HA
          simp only [gluepotlaw03_SplitJoins.l0] at H
          have HC10 := Aside0.mk H
          clear H
          go_upto_region 8 with (fail)
          repeat (go_quiet (fail); go_upto_region 8 with (fail))
          go_cut [23] (fun v23 wc => ∃ (kq : Nat) (x23_9 : Bool), v23 = .bool x23_9 ∧ Aside0 (gluepotlaw03_SplitJoins.j1 kq a1 t127 x6_1 x7_1 x23_9 = some r) ∧ Aside0 (kq ≤ k1) ∧ Aside0 (Kd.R Kd.string 9 wc w.heap.size (fun _ => True) v128 t127) ∧ Aside0 (Below w.heap.size w wc))
          case first =>
            have H := HC10.out
            clear HC10
            by_cases c11 : x7_1 < (t127.length : Int)
            · rw [if_pos c11] at H
              have c11b0 : decide (x7_1 < (t127.length : Int)) = true := decide_eq_true c11
              clear c11
              (first | rw [c11b0] | (simp only [i64_w, i32_w]; rw [c11b0]) | skip)
              have H' := Aside0.mk H
              clear H
              obtain ⟨Ao12, co12, eo12⟩ := Kd.R_slice HO_5.out
              subst eo12
              go_wp2
              repeat (go_quiet (fail); try go_wp2)
              go_meet
              case rel => exact ⟨_, (decide (x7_1 ≤ 3000)), (by first | rfl | (simp; done) | (simp [*]; done)), H', ⟨by have := HK1.out; first | omega | exact Nat.le_refl _⟩, ⟨by (with_reducible repeat (first | apply Kd.R_alloc | apply Kd.R_drewN | apply Kd.R_drew)); exact HO_5.out⟩, ⟨by repeat (first | (with_reducible first | exact HB.out | apply below_alloc | apply pw_below_drewN | apply below_drew1) | exact HB.out)⟩⟩
            · rw [if_neg c11] at H
              have c11b0 : decide (x7_1 < (t127.length : Int)) = false := decide_eq_false c11
              clear c11
              (first | rw [c11b0] | (simp only [i64_w, i32_w]; rw [c11b0]) | skip)
              have H' := Aside0.mk H
              clear H
              obtain ⟨Ao13, co13, eo13⟩ := Kd.R_slice HO_5.out
              subst eo13
              go_wp2
              repeat (go_quiet (fail); try go_wp2)
              go_meet
              case rel => exact ⟨_, (false), (by first | rfl | (simp; done) | (simp [*]; done)), H', ⟨by have := HK1.out; first | omega | exact Nat.le_refl _⟩, ⟨by (with_reducible repeat (first | apply Kd.R_alloc | apply Kd.R_drewN | apply Kd.R_drew)); exact HO_5.out⟩, ⟨by repeat (first | (with_reducible first | exact HB.out | apply below_alloc | apply pw_below_drewN | apply below_drew1) | exact HB.out)⟩⟩
          case rest =>
            clear HC10
            try clear c1
            try clear p2
            try clear c4
            try clear c5
            try clear c5b0
            try clear c5b1
            try clear c6
            try clear c11
            try clear c11b0
            try clear p2
            obtain ⟨kq, x23_9, rfl, HA, HJ9, HO_5, HB⟩ := hcut
            cases kq with
            | zero => exact absurd HA.out (by simp [gluepotlaw03_SplitJoins.j1])
            | succ kj9 =>
              have H := HA.out
              clear HA
              simp only [gluepotlaw03_SplitJoins.j1] at H
              by_cases c14 : x23_9 = true
              · subst c14
                have H1 : (gluepotlaw03_SplitJoins.l1 kj9 a1 t127 x6_1 x7_1 0) = some r := by rw [if_pos rfl] at H; exact H
                clear H
                have H := H1
                clear H1
                have H' := Aside0.mk H
                clear H
                go_wp2
                repeat (go_quiet (fail); try go_wp2)
                go_loopg [8] kj9 (fun kq v8 w' => ∃ (x8_3 : Int), v8 = .int .i64 x8_3 ∧ Aside0 (gluepotlaw03_SplitJoins.l1 kq a1 t127 x6_1 x7_1 x8_3 = some r) ∧ Aside0 (kq ≤ kj9) ∧ Aside0 (Kd.R Kd.string 9 w' w.heap.size (fun _ => True) v128 t127) ∧ Aside0 (Below w.heap.size w w'))
                case atStart => exact ⟨(0), (by first | rfl | (simp; done) | (simp [*]; done)), H', ⟨Nat.le_refl _⟩, ⟨by (with_reducible repeat (first | apply Kd.R_alloc | apply Kd.R_drewN | apply Kd.R_drew)); exact HO_5.out⟩, ⟨by repeat (first | (with_reducible first | exact HB.out | apply below_alloc | apply pw_below_drewN | apply below_drew1) | exact HB.out)⟩⟩
                case round =>
                  clear H'
                  try clear c1
                  try clear p2
                  try clear c4
                  try clear c5
                  try clear c5b0
                  try clear c5b1
                  try clear c6
                  try clear c11
                  try clear c11b0
                  try clear c14
                  try clear p2
                  obtain ⟨x8_3, rfl, HA, HK3, HO_5, HB⟩ := hrel
                  cases gk with
                  | zero => exact absurd HA.out (by simp [gluepotlaw03_SplitJoins.l1])
                  | succ k3 =>
                    have H := HA.out
                    clear HA
                    simp only [gluepotlaw03_SplitJoins.l1] at H
                    by_cases c15 : 0 ≤ x7_1
                    · rw [if_pos c15] at H
                      have c15b0 : decide (0 ≤ x7_1) = true := decide_eq_true c15
                      clear c15
                      by_cases c16 : x7_1 < (t127.length : Int)
                      · rw [if_pos c16] at H
                        have c16b0 : decide (x7_1 < (t127.length : Int)) = true := decide_eq_true c16
                        clear c16
                        by_cases c17 : x8_3 < ((rdOf ByteArray.empty t127 x7_1).size : Int)
                        · rw [if_pos c17] at H
                          have c17b0 : decide (x8_3 < ((rdOf ByteArray.empty t127 x7_1).size : Int)) = true := decide_eq_true c17
                          clear c17
                          by_cases c18 : 0 ≤ x8_3
                          · rw [if_pos c18] at H
                            have c18b0 : decide (0 ≤ x8_3) = true := decide_eq_true c18
                            clear c18
                            replace H := Option.bind_eq_some_iff.mp H
                            obtain ⟨t136, A200, H⟩ := H
                            replace H : (if t136 = true then (some false) else (gluepotlaw03_SplitJoins.l1 k3 a1 t127 x6_1 x7_1 (wrap64 (x8_3 + 1)))) = some r := H
                            have A20 := Aside0.mk A200
                            clear A200
                            by_cases c21 : t136 = true
                            · subst c21
                              have H1 : (some false) = some r := by rw [if_pos rfl] at H; exact H
                              clear H
                              have H := H1
                              clear H1
                              obtain rfl := Option.some.inj H
                              obtain ⟨Ao22, co22, eo22⟩ := Kd.R_slice HO_5.out
                              subst eo22
                              have p134 : 0 ≤ (x7_1 : Int) := of_decide_eq_true (by first | (with_reducible assumption) | assumption)
                              have q134 : x7_1 < (t127.length : Int) := of_decide_eq_true (by first | (with_reducible assumption) | assumption)
                              obtain ⟨ad134, e134, hx134_0⟩ := Kd.at_string (Kd.R_reads' HO_5.out).2.2 x7_1 p134 q134
                              cases e134
                              replace p134 := eq_true p134
                              replace q134 := eq_true q134
                              have p135 : 0 ≤ (x7_1 : Int) := of_decide_eq_true (by first | (with_reducible assumption) | assumption)
                              have q135 : x7_1 < (t127.length : Int) := of_decide_eq_true (by first | (with_reducible assumption) | assumption)
                              obtain ⟨ad135, e135, hx135_0⟩ := Kd.at_string (Kd.R_reads' HO_5.out).2.2 x7_1 p135 q135
                              obtain rfl : ad134 = ad135 := (by injection e135)
                              replace p135 := eq_true p135
                              replace q135 := eq_true q135
                              have p19 : 0 ≤ (x8_3 : Int) := of_decide_eq_true (by first | (with_reducible assumption) | assumption)
                              have q19 : x8_3 < ((rdOf ByteArray.empty t127 x7_1).size : Int) := of_decide_eq_true (by first | (with_reducible assumption) | assumption)
                              have hx19 := bt_at (rdOf ByteArray.empty t127 x7_1) x8_3
                              replace p19 := eq_true p19
                              replace q19 := eq_true q19
                              go_wp2_with (first | (go_at_call 25; (with_reducible refine (split_Gap.calls (bt (rdOf ByteArray.empty t127 x7_1) x8_3) true _ A20.out).mono ?_); rintro e w' ⟨rfl, ⟨nd, rfl⟩⟩; (try first | exact ⟨rfl, _, World.drewN_drewN _ _ _⟩ | exact ⟨rfl, _, Eq.trans (World.drewN_drewN _ _ _) (congrArg (World.drewN _) (Nat.add_assoc _ _ _))⟩)))
                              repeat (go_quiet (first | (go_at_call 25; (with_reducible refine (split_Gap.calls (bt (rdOf ByteArray.empty t127 x7_1) x8_3) true _ A20.out).mono ?_); rintro e w' ⟨rfl, ⟨nd, rfl⟩⟩; (try first | exact ⟨rfl, _, World.drewN_drewN _ _ _⟩ | exact ⟨rfl, _, Eq.trans (World.drewN_drewN _ _ _) (congrArg (World.drewN _) (Nat.add_assoc _ _ _))⟩))); try go_wp2_with (first | (go_at_call 25; (with_reducible refine (split_Gap.calls (bt (rdOf ByteArray.empty t127 x7_1) x8_3) true _ A20.out).mono ?_); rintro e w' ⟨rfl, ⟨nd, rfl⟩⟩; (try first | exact ⟨rfl, _, World.drewN_drewN _ _ _⟩ | exact ⟨rfl, _, Eq.trans (World.drewN_drewN _ _ _) (congrArg (World.drewN _) (Nat.add_assoc _ _ _))⟩))))
                              go_ret
                              exact ⟨by first | rfl | (simp [errW_none, errW_some] <;> rfl) | (simp [*, errW_none, errW_some] <;> rfl), by repeat (first | (with_reducible first | exact HB.out | apply below_alloc | apply pw_below_drewN | apply below_drew1) | exact HB.out)⟩
                            · replace c21 := Bool.eq_false_iff.mpr c21
                              subst c21
                              have H1 : (gluepotlaw03_SplitJoins.l1 k3 a1 t127 x6_1 x7_1 (wrap64 (x8_3 + 1))) = some r := by rw [if_neg (show ¬ (false = true) by decide)] at H; exact H
                              clear H
                              have H := H1
                              clear H1
                              have H' := Aside0.mk H
                              clear H
                              obtain ⟨Ao23, co23, eo23⟩ := Kd.R_slice HO_5.out
                              subst eo23
                              have p134 : 0 ≤ (x7_1 : Int) := of_decide_eq_true (by first | (with_reducible assumption) | assumption)
                              have q134 : x7_1 < (t127.length : Int) := of_decide_eq_true (by first | (with_reducible assumption) | assumption)
                              obtain ⟨ad134, e134, hx134_0⟩ := Kd.at_string (Kd.R_reads' HO_5.out).2.2 x7_1 p134 q134
                              cases e134
                              replace p134 := eq_true p134
                              replace q134 := eq_true q134
                              have p135 : 0 ≤ (x7_1 : Int) := of_decide_eq_true (by first | (with_reducible assumption) | assumption)
                              have q135 : x7_1 < (t127.length : Int) := of_decide_eq_true (by first | (with_reducible assumption) | assumption)
                              obtain ⟨ad135, e135, hx135_0⟩ := Kd.at_string (Kd.R_reads' HO_5.out).2.2 x7_1 p135 q135
                              obtain rfl : ad134 = ad135 := (by injection e135)
                              replace p135 := eq_true p135
                              replace q135 := eq_true q135
                              have p19 : 0 ≤ (x8_3 : Int) := of_decide_eq_true (by first | (with_reducible assumption) | assumption)
                              have q19 : x8_3 < ((rdOf ByteArray.empty t127 x7_1).size : Int) := of_decide_eq_true (by first | (with_reducible assumption) | assumption)
                              have hx19 := bt_at (rdOf ByteArray.empty t127 x7_1) x8_3
                              replace p19 := eq_true p19
                              replace q19 := eq_true q19
                              go_wp2_with (first | (go_at_call 25; (with_reducible refine (split_Gap.calls (bt (rdOf ByteArray.empty t127 x7_1) x8_3) false _ A20.out).mono ?_); rintro e w' ⟨rfl, ⟨nd, rfl⟩⟩; (try first | exact ⟨rfl, _, World.drewN_drewN _ _ _⟩ | exact ⟨rfl, _, Eq.trans (World.drewN_drewN _ _ _) (congrArg (World.drewN _) (Nat.add_assoc _ _ _))⟩)))
                              repeat (go_quiet (first | (go_at_call 25; (with_reducible refine (split_Gap.calls (bt (rdOf ByteArray.empty t127 x7_1) x8_3) false _ A20.out).mono ?_); rintro e w' ⟨rfl, ⟨nd, rfl⟩⟩; (try first | exact ⟨rfl, _, World.drewN_drewN _ _ _⟩ | exact ⟨rfl, _, Eq.trans (World.drewN_drewN _ _ _) (congrArg (World.drewN _) (Nat.add_assoc _ _ _))⟩))); try go_wp2_with (first | (go_at_call 25; (with_reducible refine (split_Gap.calls (bt (rdOf ByteArray.empty t127 x7_1) x8_3) false _ A20.out).mono ?_); rintro e w' ⟨rfl, ⟨nd, rfl⟩⟩; (try first | exact ⟨rfl, _, World.drewN_drewN _ _ _⟩ | exact ⟨rfl, _, Eq.trans (World.drewN_drewN _ _ _) (congrArg (World.drewN _) (Nat.add_assoc _ _ _))⟩))))
                              go_roundg k3
                              case measure => have := HK1.out; have := HJ9.out; have := HK3.out; omega
                              case rel => exact ⟨(wrap64 (x8_3 + 1)), (by first | rfl | (simp; done) | (simp [*]; done)), H', ⟨by have := HK1.out; have := HJ9.out; have := HK3.out; omega⟩, ⟨by (with_reducible repeat (first | apply Kd.R_alloc | apply Kd.R_drewN | apply Kd.R_drew)); exact HO_5.out⟩, ⟨by repeat (first | (with_reducible first | exact HB.out | apply below_alloc | apply pw_below_drewN | apply below_drew1) | exact HB.out)⟩⟩
                          · rw [if_neg c18] at H
                            exact absurd H (by simp)
                        · rw [if_neg c17] at H
                          have c17b0 : decide (x8_3 < ((rdOf ByteArray.empty t127 x7_1).size : Int)) = false := decide_eq_false c17
                          clear c17
                          by_cases c24 : x6_1.size + (rdOf ByteArray.empty t127 x7_1).size ≤ 9223372036854775807
                          · rw [if_pos c24] at H
                            have c24b0 := eq_true c24
                            have c24b1 : decide (x6_1.size + (rdOf ByteArray.empty t127 x7_1).size ≤ 9223372036854775807) = true := decide_eq_true c24
                            try have c24b2 : (9223372036854775807 < x6_1.size + (rdOf ByteArray.empty t127 x7_1).size) = False := eq_false (Nat.not_lt.2 c24)
                            obtain ⟨ji25, hji25⟩ : ∃ j_ : Int, (Int.tmod (wrap64 ((wrap64 (a1)) + x7_1)) 4) = j_ := ⟨_, rfl⟩
                            replace H : (if 0 ≤ (ji25) then (if (ji25) ≤ (wrap64 ((ji25) + 1)) then (if (wrap64 ((ji25) + 1)) ≤ 4 then (if (x6_1 ++ (rdOf ByteArray.empty t127 x7_1)).size + ((⟨#[9, 10, 13, 32]⟩ : ByteArray).extract ((ji25) : Int).toNat ((wrap64 ((ji25) + 1)) : Int).toNat).size ≤ 9223372036854775807 then (if (rdOf ByteArray.empty t127 x7_1).toList = ([] : List UInt8) then (some false) else (if (((x6_1 ++ (rdOf ByteArray.empty t127 x7_1)) ++ ((⟨#[9, 10, 13, 32]⟩ : ByteArray).extract ((ji25) : Int).toNat ((wrap64 ((ji25) + 1)) : Int).toNat)).size : Int) > 7000 then (some false) else (gluepotlaw03_SplitJoins.l0 k3 a1 t127 ((x6_1 ++ (rdOf ByteArray.empty t127 x7_1)) ++ ((⟨#[9, 10, 13, 32]⟩ : ByteArray).extract ((ji25) : Int).toNat ((wrap64 ((ji25) + 1)) : Int).toNat)) (wrap64 (x7_1 + 1))))) else (none)) else (none)) else (none)) else (none)) = some r := by first | (rw [hji25] at H; exact H) | (simp only [hji25] at H ⊢; exact H)
                            by_cases c26 : 0 ≤ (ji25)
                            · rw [if_pos c26] at H
                              have c26b0 := eq_true c26
                              have c26b1 : decide (0 ≤ (ji25)) = true := decide_eq_true c26
                              clear c26
                              by_cases c27 : (ji25) ≤ (wrap64 ((ji25) + 1))
                              · rw [if_pos c27] at H
                                have c27b0 := eq_true c27
                                have c27b1 : decide ((ji25) ≤ (wrap64 ((ji25) + 1))) = true := decide_eq_true c27
                                by_cases c28 : (wrap64 ((ji25) + 1)) ≤ 4
                                · rw [if_pos c28] at H
                                  have c28b0 := eq_true c28
                                  have c28b1 : decide ((wrap64 ((ji25) + 1)) ≤ 4) = true := decide_eq_true c28
                                  by_cases c29 : (x6_1 ++ (rdOf ByteArray.empty t127 x7_1)).size + ((⟨#[9, 10, 13, 32]⟩ : ByteArray).extract ((ji25) : Int).toNat ((wrap64 ((ji25) + 1)) : Int).toNat).size ≤ 9223372036854775807
                                  · rw [if_pos c29] at H
                                    have c29b0 := eq_true c29
                                    have c29b1 : decide ((x6_1 ++ (rdOf ByteArray.empty t127 x7_1)).size + ((⟨#[9, 10, 13, 32]⟩ : ByteArray).extract ((ji25) : Int).toNat ((wrap64 ((ji25) + 1)) : Int).toNat).size ≤ 9223372036854775807) = true := decide_eq_true c29
                                    try have c29b2 : (9223372036854775807 < (x6_1 ++ (rdOf ByteArray.empty t127 x7_1)).size + ((⟨#[9, 10, 13, 32]⟩ : ByteArray).extract ((ji25) : Int).toNat ((wrap64 ((ji25) + 1)) : Int).toNat).size) = False := eq_false (Nat.not_lt.2 c29)
                                    by_cases c30 : (rdOf ByteArray.empty t127 x7_1).toList = ([] : List UInt8)
                                    · rw [if_pos c30] at H
                                      have c30b0 : ((rdOf ByteArray.empty t127 x7_1).toList == ([] : List UInt8)) = true := beq_iff_eq.mpr c30
                                      have c30b1 : ((rdOf ByteArray.empty t127 x7_1).toList != ([] : List UInt8)) = false := bne_eq_false_iff_eq.mpr c30
                                      clear c30
                                      obtain rfl := Option.some.inj H
                                      obtain ⟨Ao31, co31, eo31⟩ := Kd.R_slice HO_5.out
                                      subst eo31
                                      have p134 : 0 ≤ (x7_1 : Int) := of_decide_eq_true (by first | (with_reducible assumption) | assumption)
                                      have q134 : x7_1 < (t127.length : Int) := of_decide_eq_true (by first | (with_reducible assumption) | assumption)
                                      obtain ⟨ad134, e134, hx134_0⟩ := Kd.at_string (Kd.R_reads' HO_5.out).2.2 x7_1 p134 q134
                                      cases e134
                                      replace p134 := eq_true p134
                                      replace q134 := eq_true q134
                                      have p137 : 0 ≤ (x7_1 : Int) := of_decide_eq_true (by first | (with_reducible assumption) | assumption)
                                      have q137 : x7_1 < (t127.length : Int) := of_decide_eq_true (by first | (with_reducible assumption) | assumption)
                                      obtain ⟨ad137, e137, hx137_0⟩ := Kd.at_string (Kd.R_reads' HO_5.out).2.2 x7_1 p137 q137
                                      obtain rfl : ad134 = ad137 := (by injection e137)
                                      replace p137 := eq_true p137
                                      replace q137 := eq_true q137
                                      have p138 : 0 ≤ (x7_1 : Int) := of_decide_eq_true (by first | (with_reducible assumption) | assumption)
                                      have q138 : x7_1 < (t127.length : Int) := of_decide_eq_true (by first | (with_reducible assumption) | assumption)
                                      obtain ⟨ad138, e138, hx138_0⟩ := Kd.at_string (Kd.R_reads' HO_5.out).2.2 x7_1 p138 q138
                                      obtain rfl : ad134 = ad138 := (by injection e138)
                                      replace p138 := eq_true p138
                                      replace q138 := eq_true q138
                                      go_wp2
                                      repeat (go_quiet (fail); try go_wp2)
                                      go_ret
                                      exact ⟨by first | rfl | (simp [errW_none, errW_some] <;> rfl) | (simp only [← hji25]; first | rfl | (simp [errW_none, errW_some] <;> rfl)) | (simp [*, errW_none, errW_some] <;> rfl), by repeat (first | (with_reducible first | exact HB.out | apply below_alloc | apply pw_below_drewN | apply below_drew1) | exact HB.out)⟩
                                    · rw [if_neg c30] at H
                                      have c30b0 : ((rdOf ByteArray.empty t127 x7_1).toList == ([] : List UInt8)) = false := beq_eq_false_iff_ne.mpr c30
                                      have c30b1 : ((rdOf ByteArray.empty t127 x7_1).toList != ([] : List UInt8)) = true := bne_iff_ne.mpr c30
                                      by_cases c32 : (((x6_1 ++ (rdOf ByteArray.empty t127 x7_1)) ++ ((⟨#[9, 10, 13, 32]⟩ : ByteArray).extract ((ji25) : Int).toNat ((wrap64 ((ji25) + 1)) : Int).toNat)).size : Int) > 7000
                                      · rw [if_pos c32] at H
                                        have c32b0 : decide (7000 < (((x6_1 ++ (rdOf ByteArray.empty t127 x7_1)) ++ ((⟨#[9, 10, 13, 32]⟩ : ByteArray).extract ((ji25) : Int).toNat ((wrap64 ((ji25) + 1)) : Int).toNat)).size : Int)) = true := decide_eq_true c32
                                        have c32b1 : decide (7000 < ((x6_1 ++ (rdOf ByteArray.empty t127 x7_1)) ++ ((⟨#[9, 10, 13, 32]⟩ : ByteArray).extract ((ji25) : Int).toNat ((wrap64 ((ji25) + 1)) : Int).toNat)).size) = true := decide_eq_true (by omega)
                                        have c32c : 7000 < (x6_1.size : Int) + ((rdOf ByteArray.empty t127 x7_1).size : Int) + (((wrap64 (ji25 + 1)).toNat - ji25.toNat : Nat) : Int) := by
                                          have h0 := c32
                                          rw [ByteArray.size_append, ByteArray.size_append, ext_size _ _ c28] at h0
                                          omega
                                        clear c32
                                        obtain rfl := Option.some.inj H
                                        obtain ⟨Ao33, co33, eo33⟩ := Kd.R_slice HO_5.out
                                        subst eo33
                                        have p134 : 0 ≤ (x7_1 : Int) := of_decide_eq_true (by first | (with_reducible assumption) | assumption)
                                        have q134 : x7_1 < (t127.length : Int) := of_decide_eq_true (by first | (with_reducible assumption) | assumption)
                                        obtain ⟨ad134, e134, hx134_0⟩ := Kd.at_string (Kd.R_reads' HO_5.out).2.2 x7_1 p134 q134
                                        cases e134
                                        replace p134 := eq_true p134
                                        replace q134 := eq_true q134
                                        have p137 : 0 ≤ (x7_1 : Int) := of_decide_eq_true (by first | (with_reducible assumption) | assumption)
                                        have q137 : x7_1 < (t127.length : Int) := of_decide_eq_true (by first | (with_reducible assumption) | assumption)
                                        obtain ⟨ad137, e137, hx137_0⟩ := Kd.at_string (Kd.R_reads' HO_5.out).2.2 x7_1 p137 q137
                                        obtain rfl : ad134 = ad137 := (by injection e137)
                                        replace p137 := eq_true p137
                                        replace q137 := eq_true q137
                                        have p138 : 0 ≤ (x7_1 : Int) := of_decide_eq_true (by first | (with_reducible assumption) | assumption)
                                        have q138 : x7_1 < (t127.length : Int) := of_decide_eq_true (by first | (with_reducible assumption) | assumption)
                                        obtain ⟨ad138, e138, hx138_0⟩ := Kd.at_string (Kd.R_reads' HO_5.out).2.2 x7_1 p138 q138
                                        obtain rfl : ad134 = ad138 := (by injection e138)
                                        replace p138 := eq_true p138
                                        replace q138 := eq_true q138
                                        go_wp2
                                        repeat (go_quiet (fail); try go_wp2)
                                        go_ret
                                        exact ⟨by first | rfl | (simp [errW_none, errW_some] <;> rfl) | (simp only [← hji25]; first | rfl | (simp [errW_none, errW_some] <;> rfl)) | (simp [*, errW_none, errW_some] <;> rfl), by repeat (first | (with_reducible first | exact HB.out | apply below_alloc | apply pw_below_drewN | apply below_drew1) | exact HB.out)⟩
                                      · rw [if_neg c32] at H
                                        have c32b0 : decide (7000 < (((x6_1 ++ (rdOf ByteArray.empty t127 x7_1)) ++ ((⟨#[9, 10, 13, 32]⟩ : ByteArray).extract ((ji25) : Int).toNat ((wrap64 ((ji25) + 1)) : Int).toNat)).size : Int)) = false := decide_eq_false c32
                                        have c32b1 : decide (7000 < ((x6_1 ++ (rdOf ByteArray.empty t127 x7_1)) ++ ((⟨#[9, 10, 13, 32]⟩ : ByteArray).extract ((ji25) : Int).toNat ((wrap64 ((ji25) + 1)) : Int).toNat)).size) = false := decide_eq_false (by omega)
                                        have c32c : (x6_1.size : Int) + ((rdOf ByteArray.empty t127 x7_1).size : Int) + (((wrap64 (ji25 + 1)).toNat - ji25.toNat : Nat) : Int) ≤ 7000 := by
                                          have h0 := c32
                                          rw [ByteArray.size_append, ByteArray.size_append, ext_size _ _ c28] at h0
                                          omega
                                        clear c32
                                        have H' := Aside0.mk H
                                        clear H
                                        obtain ⟨Ao34, co34, eo34⟩ := Kd.R_slice HO_5.out
                                        subst eo34
                                        have p134 : 0 ≤ (x7_1 : Int) := of_decide_eq_true (by first | (with_reducible assumption) | assumption)
                                        have q134 : x7_1 < (t127.length : Int) := of_decide_eq_true (by first | (with_reducible assumption) | assumption)
                                        obtain ⟨ad134, e134, hx134_0⟩ := Kd.at_string (Kd.R_reads' HO_5.out).2.2 x7_1 p134 q134
                                        cases e134
                                        replace p134 := eq_true p134
                                        replace q134 := eq_true q134
                                        have p137 : 0 ≤ (x7_1 : Int) := of_decide_eq_true (by first | (with_reducible assumption) | assumption)
                                        have q137 : x7_1 < (t127.length : Int) := of_decide_eq_true (by first | (with_reducible assumption) | assumption)
                                        obtain ⟨ad137, e137, hx137_0⟩ := Kd.at_string (Kd.R_reads' HO_5.out).2.2 x7_1 p137 q137
                                        obtain rfl : ad134 = ad137 := (by injection e137)
                                        replace p137 := eq_true p137
                                        replace q137 := eq_true q137
                                        have p138 : 0 ≤ (x7_1 : Int) := of_decide_eq_true (by first | (with_reducible assumption) | assumption)
                                        have q138 : x7_1 < (t127.length : Int) := of_decide_eq_true (by first | (with_reducible assumption) | assumption)
                                        obtain ⟨ad138, e138, hx138_0⟩ := Kd.at_string (Kd.R_reads' HO_5.out).2.2 x7_1 p138 q138
                                        obtain rfl : ad134 = ad138 := (by injection e138)
                                        replace p138 := eq_true p138
                                        replace q138 := eq_true q138
                                        go_wp2
                                        repeat (go_quiet (fail); try go_wp2)
                                        go_roundg k3
                                        case measure => have := HK1.out; have := HJ9.out; have := HK3.out; omega
                                        case rel => exact ⟨((x6_1 ++ (rdOf ByteArray.empty t127 x7_1)) ++ ((⟨#[9, 10, 13, 32]⟩ : ByteArray).extract ((ji25) : Int).toNat ((wrap64 ((ji25) + 1)) : Int).toNat)), (wrap64 (x7_1 + 1)), (by first | rfl | (simp; done) | (simp only [← hji25] <;> (first | rfl | simp)) | (simp [*]; done)), (by first | rfl | (simp; done) | (simp [*]; done)), H', ⟨by have := HK1.out; have := HJ9.out; have := HK3.out; omega⟩, ⟨by (with_reducible repeat (first | apply Kd.R_alloc | apply Kd.R_drewN | apply Kd.R_drew)); exact HO_5.out⟩, ⟨by repeat (first | (with_reducible first | exact HB.out | apply below_alloc | apply pw_below_drewN | apply below_drew1) | exact HB.out)⟩⟩
                                  · rw [if_neg c29] at H
                                    exact absurd H (by simp)
                                · rw [if_neg c28] at H
                                  exact absurd H (by simp)
                              · rw [if_neg c27] at H
                                exact absurd H (by simp)
                            · rw [if_neg c26] at H
                              exact absurd H (by simp)
                          · rw [if_neg c24] at H
                            exact absurd H (by simp)
                      · rw [if_neg c16] at H
                        exact absurd H (by simp)
                    · rw [if_neg c15] at H
                      exact absurd H (by simp)
              · replace c14 := Bool.eq_false_iff.mpr c14
                subst c14
                have H1 : ((split_Words.f x6_1).bind fun t130 => ((gluepotref01_Texts.f kj9 t130 t127).bind fun t133 => (some t133))) = some r := by rw [if_neg (show ¬ (false = true) by decide)] at H; exact H
                clear H
                have H := H1
                clear H1
                replace H := Option.bind_eq_some_iff.mp H
                obtain ⟨t130, A350, H⟩ := H
                replace H : ((gluepotref01_Texts.f kj9 t130 t127).bind fun t133 => (some t133)) = some r := H
                have A35 := Aside0.mk A350
                clear A350
                replace H := Option.bind_eq_some_iff.mp H
                obtain ⟨t133, A360, H⟩ := H
                replace H : (some t133) = some r := H
                have A36 := Aside0.mk A360
                clear A360
                obtain rfl := Option.some.inj H
                go_wp2_with (first | (go_at_call 24; (with_reducible refine (split_Words.calls x6_1 t130 _ A35.out).mono ?_); rintro e w37 ⟨v131, rfl, ho0, hb⟩; have n0_ := Aside0.mk (Kd.R_elder' (by (with_reducible repeat (first | apply Kd.R_alloc | apply Kd.R_drewN | apply Kd.R_drew)); exact HO_5.out) (Kd.R_base ho0) hb); have n1_ := Aside0.mk (Kd.R_lower (Kd.R_new' ho0 (Kd.R_lt (by (with_reducible repeat (first | apply Kd.R_alloc | apply Kd.R_drewN | apply Kd.R_drew)); exact HO_5.out))) (below_size (by repeat (first | (with_reducible first | exact HB.out | apply below_alloc | apply pw_below_drewN | apply below_drew1) | exact HB.out)))); have n2_ := Aside0.mk (below_step (by repeat (first | (with_reducible first | exact HB.out | apply below_alloc | apply pw_below_drewN | apply below_drew1) | exact HB.out)) hb); clear HO_5; clear HB; have HO_5 := n0_; have HO132 := n1_; have HB := n2_; clear n0_ n1_ n2_; (try clear hb); (try clear hb2); (try clear hk); (try clear hi); (try clear ho0); obtain ⟨Ao38, co38, eo38⟩ := Kd.R_slice HO132.out; subst eo38; obtain ⟨Ao39, co39, eo39⟩ := Kd.R_slice HO_5.out; subst eo39) | (go_at_call 23; (with_reducible refine (gluepotref01_Texts.calls kj9 _ _ t130 _ _ t127 t133 _ ?side1 ?side2 ?side3 ?side4 A36.out).mono ?_); (case side1 => repeat (first | exact (Kd.R_reads' HO132.out).2.2 | (with_reducible refine Kd.C_alloc ?_ _) | (with_reducible refine Kd.C_drewN ?_ _) | (with_reducible refine Kd.C_drew ?_))); (case side2 => exact (Kd.R_reads' HO132.out).2.1); (case side3 => repeat (first | exact (Kd.R_reads' HO_5.out).2.2 | (with_reducible refine Kd.C_alloc ?_ _) | (with_reducible refine Kd.C_drewN ?_ _) | (with_reducible refine Kd.C_drew ?_))); (case side4 => exact (Kd.R_reads' HO_5.out).2.1); rintro e w' ⟨rfl, ⟨nd, rfl⟩⟩; (try first | exact ⟨rfl, _, World.drewN_drewN _ _ _⟩ | exact ⟨rfl, _, Eq.trans (World.drewN_drewN _ _ _) (congrArg (World.drewN _) (Nat.add_assoc _ _ _))⟩)))
                repeat (go_quiet (first | (go_at_call 24; (with_reducible refine (split_Words.calls x6_1 t130 _ A35.out).mono ?_); rintro e w37 ⟨v131, rfl, ho0, hb⟩; have n0_ := Aside0.mk (Kd.R_elder' (by (with_reducible repeat (first | apply Kd.R_alloc | apply Kd.R_drewN | apply Kd.R_drew)); exact HO_5.out) (Kd.R_base ho0) hb); have n1_ := Aside0.mk (Kd.R_lower (Kd.R_new' ho0 (Kd.R_lt (by (with_reducible repeat (first | apply Kd.R_alloc | apply Kd.R_drewN | apply Kd.R_drew)); exact HO_5.out))) (below_size (by repeat (first | (with_reducible first | exact HB.out | apply below_alloc | apply pw_below_drewN | apply below_drew1) | exact HB.out)))); have n2_ := Aside0.mk (below_step (by repeat (first | (with_reducible first | exact HB.out | apply below_alloc | apply pw_below_drewN | apply below_drew1) | exact HB.out)) hb); clear HO_5; clear HB; have HO_5 := n0_; have HO132 := n1_; have HB := n2_; clear n0_ n1_ n2_; (try clear hb); (try clear hb2); (try clear hk); (try clear hi); (try clear ho0); obtain ⟨Ao38, co38, eo38⟩ := Kd.R_slice HO132.out; subst eo38; obtain ⟨Ao39, co39, eo39⟩ := Kd.R_slice HO_5.out; subst eo39) | (go_at_call 23; (with_reducible refine (gluepotref01_Texts.calls kj9 _ _ t130 _ _ t127 t133 _ ?side1 ?side2 ?side3 ?side4 A36.out).mono ?_); (case side1 => repeat (first | exact (Kd.R_reads' HO132.out).2.2 | (with_reducible refine Kd.C_alloc ?_ _) | (with_reducible refine Kd.C_drewN ?_ _) | (with_reducible refine Kd.C_drew ?_))); (case side2 => exact (Kd.R_reads' HO132.out).2.1); (case side3 => repeat (first | exact (Kd.R_reads' HO_5.out).2.2 | (with_reducible refine Kd.C_alloc ?_ _) | (with_reducible refine Kd.C_drewN ?_ _) | (with_reducible refine Kd.C_drew ?_))); (case side4 => exact (Kd.R_reads' HO_5.out).2.1); rintro e w' ⟨rfl, ⟨nd, rfl⟩⟩; (try first | exact ⟨rfl, _, World.drewN_drewN _ _ _⟩ | exact ⟨rfl, _, Eq.trans (World.drewN_drewN _ _ _) (congrArg (World.drewN _) (Nat.add_assoc _ _ _))⟩))); try go_wp2_with (first | (go_at_call 24; (with_reducible refine (split_Words.calls x6_1 t130 _ A35.out).mono ?_); rintro e w37 ⟨v131, rfl, ho0, hb⟩; have n0_ := Aside0.mk (Kd.R_elder' (by (with_reducible repeat (first | apply Kd.R_alloc | apply Kd.R_drewN | apply Kd.R_drew)); exact HO_5.out) (Kd.R_base ho0) hb); have n1_ := Aside0.mk (Kd.R_lower (Kd.R_new' ho0 (Kd.R_lt (by (with_reducible repeat (first | apply Kd.R_alloc | apply Kd.R_drewN | apply Kd.R_drew)); exact HO_5.out))) (below_size (by repeat (first | (with_reducible first | exact HB.out | apply below_alloc | apply pw_below_drewN | apply below_drew1) | exact HB.out)))); have n2_ := Aside0.mk (below_step (by repeat (first | (with_reducible first | exact HB.out | apply below_alloc | apply pw_below_drewN | apply below_drew1) | exact HB.out)) hb); clear HO_5; clear HB; have HO_5 := n0_; have HO132 := n1_; have HB := n2_; clear n0_ n1_ n2_; (try clear hb); (try clear hb2); (try clear hk); (try clear hi); (try clear ho0); obtain ⟨Ao38, co38, eo38⟩ := Kd.R_slice HO132.out; subst eo38; obtain ⟨Ao39, co39, eo39⟩ := Kd.R_slice HO_5.out; subst eo39) | (go_at_call 23; (with_reducible refine (gluepotref01_Texts.calls kj9 _ _ t130 _ _ t127 t133 _ ?side1 ?side2 ?side3 ?side4 A36.out).mono ?_); (case side1 => repeat (first | exact (Kd.R_reads' HO132.out).2.2 | (with_reducible refine Kd.C_alloc ?_ _) | (with_reducible refine Kd.C_drewN ?_ _) | (with_reducible refine Kd.C_drew ?_))); (case side2 => exact (Kd.R_reads' HO132.out).2.1); (case side3 => repeat (first | exact (Kd.R_reads' HO_5.out).2.2 | (with_reducible refine Kd.C_alloc ?_ _) | (with_reducible refine Kd.C_drewN ?_ _) | (with_reducible refine Kd.C_drew ?_))); (case side4 => exact (Kd.R_reads' HO_5.out).2.1); rintro e w' ⟨rfl, ⟨nd, rfl⟩⟩; (try first | exact ⟨rfl, _, World.drewN_drewN _ _ _⟩ | exact ⟨rfl, _, Eq.trans (World.drewN_drewN _ _ _) (congrArg (World.drewN _) (Nat.add_assoc _ _ _))⟩))))
                go_ret
                exact ⟨by first | rfl | (simp [errW_none, errW_some] <;> rfl) | (simp [*, errW_none, errW_some] <;> rfl), by repeat (first | (with_reducible first | exact HB.out | apply below_alloc | apply pw_below_drewN | apply below_drew1) | exact HB.out)⟩
  · replace c4 := Bool.eq_false_iff.mpr c4
    subst c4
    have H1 : (some false) = some r := by rw [if_neg (show ¬ (false = true) by decide)] at H; exact H
    clear H
    have H := H1
    clear H1
    obtain rfl := Option.some.inj H
    go_enter Try.func6, Try.ntmps6
    go_wp2_with (first | (go_at_call 13; (with_reducible refine (gluepotlaw03_awake.calls  false _ A3.out).mono ?_); rintro e w40 ⟨rfl, hb⟩; have n0_ := Aside0.mk (below_step (by repeat (first | (with_reducible first | exact HB.out | apply below_alloc | apply pw_below_drewN | apply below_drew1) | exact HB.out)) hb); clear HB; have HB := n0_; clear n0_; (try clear hb); (try clear hb2); (try clear hk); (try clear hi)))
    repeat (go_quiet (first | (go_at_call 13; (with_reducible refine (gluepotlaw03_awake.calls  false _ A3.out).mono ?_); rintro e w40 ⟨rfl, hb⟩; have n0_ := Aside0.mk (below_step (by repeat (first | (with_reducible first | exact HB.out | apply below_alloc | apply pw_below_drewN | apply below_drew1) | exact HB.out)) hb); clear HB; have HB := n0_; clear n0_; (try clear hb); (try clear hb2); (try clear hk); (try clear hi))); try go_wp2_with (first | (go_at_call 13; (with_reducible refine (gluepotlaw03_awake.calls  false _ A3.out).mono ?_); rintro e w40 ⟨rfl, hb⟩; have n0_ := Aside0.mk (below_step (by repeat (first | (with_reducible first | exact HB.out | apply below_alloc | apply pw_below_drewN | apply below_drew1) | exact HB.out)) hb); clear HB; have HB := n0_; clear n0_; (try clear hb); (try clear hb2); (try clear hk); (try clear hi))))
    go_ret
    exact ⟨by first | rfl | (simp [errW_none, errW_some] <;> rfl) | (simp [*, errW_none, errW_some] <;> rfl), by repeat (first | (with_reducible first | exact HB.out | apply below_alloc | apply pw_below_drewN | apply below_drew1) | exact HB.out)⟩

end Go.Proofs.Ytmldibphbilghaa.Pr
