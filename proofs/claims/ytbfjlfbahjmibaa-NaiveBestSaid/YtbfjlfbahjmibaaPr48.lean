-- Written by wip/pr.py (over the print of the kit) out of the translation.
-- ROWS MADE ONE (wip/fixrow.py)
-- PRUNED (wip/prunelaw.py): where a call tells false f tells nothing
import Derived.Test.YtbfjlfbahjmibaaPr0
import Derived.Test.YtbfjlfbahjmibaaPr1
import Derived.Test.YtbfjlfbahjmibaaPr11
import Derived.Test.YtbfjlfbahjmibaaPr27
import Derived.Test.YtbfjlfbahjmibaaPr43
import Derived.Test.YtbfjlfbahjmibaaPr47
import Derived.Test.YtbfjlfbahjmibaaHBest
namespace Go.Proofs.Ytbfjlfbahjmibaa.Pr
open Go.RowKit Go.Proofs.YtbfjlfbahjmibaaW.PrintWords Go.Proofs.YtbfjlfbahjmibaaW.PrintLast Go.Proofs.YtbfjlfbahjmibaaW.PrintMore
attribute [local go_sem] max2_int min2_int max_two min_two max_three min_three max_four min_four   -- for this text's walks alone
set_option linter.unusedVariables false
set_option linter.unusedSimpArgs false

attribute [local go_sem high] eqA45
/-! ### gluepotlaw16_NaiveBest: function 6 -/
mutual
def gluepotlaw16_NaiveBest.j0 : Nat → List (List ByteArray) → List Int → Bool → ByteArray → ByteArray → Option (Bool)
  | 0, _, _, _, _, _ => none
  | k + 1, x0, x1, x30, x394000, x394001 => if x30 = true then (some true) else (gluepotlaw16_NaiveBest.l0 k x0 x1 0 x394000 x394001)
def gluepotlaw16_NaiveBest.l0 : Nat → List (List ByteArray) → List Int → Int → ByteArray → ByteArray → Option (Bool)
  | 0, _, _, _, _, _ => none
  | k + 1, x0, x1, x7, x394000, x394001 => if x7 < (x0.length : Int) then (if 0 ≤ x7 then (if ((rd_L4 x0 x7).length : Int) > 40 then (gluepotlaw16_NaiveBest.j2 k x0 x1 x7 true x394000 x394001) else (if x7 < (x1.length : Int) then (gluepotlaw16_NaiveBest.j2 k x0 x1 x7 (decide ((rd x1 x7) > 1000000)) x394000 x394001) else (gluepotlaw16_NaiveBest.j2 k x0 x1 x7 false x394000 x394001))) else (none)) else ((naive_Best.f x0 x1).bind fun bt400 => ((gluepotref16_Best.f x0 x1).bind fun bt404 => (if (!(bt400.1.toList == bt404.1.toList) || (!(bt400.2.1.toList == bt404.2.1.toList))) = true then (gluepotlaw16_NaiveBest.j4 k x0 true x394000 x394001 bt400.1 bt400.2.1 bt404.1 bt404.2.1) else (gluepotlaw16_NaiveBest.j4 k x0 (bt400.2.2 != bt404.2.2) x394000 x394001 bt400.1 bt400.2.1 bt404.1 bt404.2.1))))
def gluepotlaw16_NaiveBest.j2 : Nat → List (List ByteArray) → List Int → Int → Bool → ByteArray → ByteArray → Option (Bool)
  | 0, _, _, _, _, _, _ => none
  | k + 1, x0, x1, x7, x55, x394000, x394001 => if x55 = true then (some true) else (gluepotlaw16_NaiveBest.l1 k x0 x1 x7 0 x394000 x394001)
def gluepotlaw16_NaiveBest.l1 : Nat → List (List ByteArray) → List Int → Int → Int → ByteArray → ByteArray → Option (Bool)
  | 0, _, _, _, _, _, _ => none
  | k + 1, x0, x1, x7, x8, x394000, x394001 => if 0 ≤ x7 then (if x7 < (x0.length : Int) then (if x8 < ((rd_L4 x0 x7).length : Int) then (if 0 ≤ x8 then (if ((rdOf ByteArray.empty (rd_L4 x0 x7) x8).size : Int) > 20 then (some true) else (gluepotlaw16_NaiveBest.l1 k x0 x1 x7 (wrap64 (x8 + 1)) x394000 x394001)) else (none)) else (gluepotlaw16_NaiveBest.l0 k x0 x1 (wrap64 (x7 + 1)) x394000 x394001)) else (none)) else (none)
def gluepotlaw16_NaiveBest.j4 : Nat → List (List ByteArray) → Bool → ByteArray → ByteArray → ByteArray → ByteArray → ByteArray → ByteArray → Option (Bool)
  | 0, _, _, _, _, _, _, _, _ => none
  | k + 1, x0, x93, x394000, x394001, x404000, x404001, x408000, x408001 => if x93 = true then (some false) else (gluepotlaw16_NaiveBest.l2 k x0 0 x394000 x394001 x404000 x404001 x408000 x408001)
def gluepotlaw16_NaiveBest.l2 : Nat → List (List ByteArray) → Int → ByteArray → ByteArray → ByteArray → ByteArray → ByteArray → ByteArray → Option (Bool)
  | 0, _, _, _, _, _, _, _, _ => none
  | k + 1, x0, x13, x394000, x394001, x404000, x404001, x408000, x408001 => if x13 < (x0.length : Int) then (if 0 ≤ x13 then ((naive_Join.f k (rd_L4 x0 x13) x394000 x394001).bind fun t409 => ((gluepotref16_Join.f k (rd_L4 x0 x13) x394000 x394001).bind fun t413 => ((gluepotref01_Texts.f k t409 t413).bind fun t416 => (if t416 = true then ((naive_Join.f k (rd_L4 x0 x13) x404000 x404001).bind fun t418 => ((gluepotref16_Join.f k (rd_L4 x0 x13) x408000 x408001).bind fun t422 => ((gluepotref01_Texts.f k t418 t422).bind fun t425 => (if t425 = true then (gluepotlaw16_NaiveBest.l2 k x0 (wrap64 (x13 + 1)) x394000 x394001 x404000 x404001 x408000 x408001) else none)))) else none)))) else (none)) else (some true)
end
def gluepotlaw16_NaiveBest.f (k : Nat) (l0 : List (List ByteArray)) (l1 : List Int) (a2_0 : ByteArray) (a2_1 : ByteArray) : Option (Bool) := (gluepotlaw16_awake.f k).bind fun t394 => (if t394 = true then (if (l0.length : Int) > 20 then (gluepotlaw16_NaiveBest.j0 k l0 l1 true a2_0 a2_1) else (if (a2_0.size : Int) > 20 then (gluepotlaw16_NaiveBest.j0 k l0 l1 true a2_0 a2_1) else (gluepotlaw16_NaiveBest.j0 k l0 l1 (decide ((a2_1.size : Int) > 20)) a2_0 a2_1))) else none)
theorem gluepotlaw16_NaiveBest.mono_l : ∀ k, (∀ y0 y1 y2 y3 y4, LeO (gluepotlaw16_NaiveBest.j0 k y0 y1 y2 y3 y4) (gluepotlaw16_NaiveBest.j0 (k + 1) y0 y1 y2 y3 y4)) ∧ (∀ y0 y1 y2 y3 y4, LeO (gluepotlaw16_NaiveBest.l0 k y0 y1 y2 y3 y4) (gluepotlaw16_NaiveBest.l0 (k + 1) y0 y1 y2 y3 y4)) ∧ (∀ y0 y1 y2 y3 y4 y5, LeO (gluepotlaw16_NaiveBest.j2 k y0 y1 y2 y3 y4 y5) (gluepotlaw16_NaiveBest.j2 (k + 1) y0 y1 y2 y3 y4 y5)) ∧ (∀ y0 y1 y2 y3 y4 y5, LeO (gluepotlaw16_NaiveBest.l1 k y0 y1 y2 y3 y4 y5) (gluepotlaw16_NaiveBest.l1 (k + 1) y0 y1 y2 y3 y4 y5)) ∧ (∀ y0 y1 y2 y3 y4 y5 y6 y7, LeO (gluepotlaw16_NaiveBest.j4 k y0 y1 y2 y3 y4 y5 y6 y7) (gluepotlaw16_NaiveBest.j4 (k + 1) y0 y1 y2 y3 y4 y5 y6 y7)) ∧ (∀ y0 y1 y2 y3 y4 y5 y6 y7, LeO (gluepotlaw16_NaiveBest.l2 k y0 y1 y2 y3 y4 y5 y6 y7) (gluepotlaw16_NaiveBest.l2 (k + 1) y0 y1 y2 y3 y4 y5 y6 y7))
  | 0 => ⟨fun _ _ _ _ _ r h => by simp [gluepotlaw16_NaiveBest.j0] at h, fun _ _ _ _ _ r h => by simp [gluepotlaw16_NaiveBest.l0] at h, fun _ _ _ _ _ _ r h => by simp [gluepotlaw16_NaiveBest.j2] at h, fun _ _ _ _ _ _ r h => by simp [gluepotlaw16_NaiveBest.l1] at h, fun _ _ _ _ _ _ _ _ r h => by simp [gluepotlaw16_NaiveBest.j4] at h, fun _ _ _ _ _ _ _ _ r h => by simp [gluepotlaw16_NaiveBest.l2] at h⟩
  | k + 1 => by
    obtain ⟨ih0, ih1, ih2, ih3, ih4, ih5⟩ := gluepotlaw16_NaiveBest.mono_l k
    refine ⟨?_, ?_, ?_, ?_, ?_, ?_⟩
    · intro y0 y1 y2 y3 y4
      unfold gluepotlaw16_NaiveBest.j0
      repeat' first
      | (with_reducible exact ih0 _ _ _ _ _)
      | (with_reducible exact ih1 _ _ _ _ _)
      | (with_reducible exact ih2 _ _ _ _ _ _)
      | (with_reducible exact ih3 _ _ _ _ _ _)
      | (with_reducible exact ih4 _ _ _ _ _ _ _ _)
      | (with_reducible exact ih5 _ _ _ _ _ _ _ _)
      | (with_reducible exact gluepotlaw16_awake.mono _)
      | (with_reducible exact gluepotref01_Texts.mono _ _ _)
      | (with_reducible exact gluepotref16_Join.mono _ _ _ _)
      | (with_reducible exact naive_Join.mono _ _ _ _)
      | (with_reducible exact LeO.refl _)
      | (with_reducible exact LeO.none _)
      | (with_reducible refine LeO.ite ?_ ?_)
      | (with_reducible refine LeO.bind ?_ (fun _ => ?_))
      | exact ih0 _ _ _ _ _
      | exact ih1 _ _ _ _ _
      | exact ih2 _ _ _ _ _ _
      | exact ih3 _ _ _ _ _ _
      | exact ih4 _ _ _ _ _ _ _ _
      | exact ih5 _ _ _ _ _ _ _ _
      | exact gluepotlaw16_awake.mono _
      | exact gluepotref01_Texts.mono _ _ _
      | exact gluepotref16_Join.mono _ _ _ _
      | exact naive_Join.mono _ _ _ _
      | exact LeO.none _
      | refine LeO.ite ?_ ?_
      | refine LeO.bind ?_ (fun _ => ?_)
    · intro y0 y1 y2 y3 y4
      unfold gluepotlaw16_NaiveBest.l0
      repeat' first
      | (with_reducible exact ih0 _ _ _ _ _)
      | (with_reducible exact ih1 _ _ _ _ _)
      | (with_reducible exact ih2 _ _ _ _ _ _)
      | (with_reducible exact ih3 _ _ _ _ _ _)
      | (with_reducible exact ih4 _ _ _ _ _ _ _ _)
      | (with_reducible exact ih5 _ _ _ _ _ _ _ _)
      | (with_reducible exact gluepotlaw16_awake.mono _)
      | (with_reducible exact gluepotref01_Texts.mono _ _ _)
      | (with_reducible exact gluepotref16_Join.mono _ _ _ _)
      | (with_reducible exact naive_Join.mono _ _ _ _)
      | (with_reducible exact LeO.refl _)
      | (with_reducible exact LeO.none _)
      | (with_reducible refine LeO.ite ?_ ?_)
      | (with_reducible refine LeO.bind ?_ (fun _ => ?_))
      | exact ih0 _ _ _ _ _
      | exact ih1 _ _ _ _ _
      | exact ih2 _ _ _ _ _ _
      | exact ih3 _ _ _ _ _ _
      | exact ih4 _ _ _ _ _ _ _ _
      | exact ih5 _ _ _ _ _ _ _ _
      | exact gluepotlaw16_awake.mono _
      | exact gluepotref01_Texts.mono _ _ _
      | exact gluepotref16_Join.mono _ _ _ _
      | exact naive_Join.mono _ _ _ _
      | exact LeO.none _
      | refine LeO.ite ?_ ?_
      | refine LeO.bind ?_ (fun _ => ?_)
    · intro y0 y1 y2 y3 y4 y5
      unfold gluepotlaw16_NaiveBest.j2
      repeat' first
      | (with_reducible exact ih0 _ _ _ _ _)
      | (with_reducible exact ih1 _ _ _ _ _)
      | (with_reducible exact ih2 _ _ _ _ _ _)
      | (with_reducible exact ih3 _ _ _ _ _ _)
      | (with_reducible exact ih4 _ _ _ _ _ _ _ _)
      | (with_reducible exact ih5 _ _ _ _ _ _ _ _)
      | (with_reducible exact gluepotlaw16_awake.mono _)
      | (with_reducible exact gluepotref01_Texts.mono _ _ _)
      | (with_reducible exact gluepotref16_Join.mono _ _ _ _)
      | (with_reducible exact naive_Join.mono _ _ _ _)
      | (with_reducible exact LeO.refl _)
      | (with_reducible exact LeO.none _)
      | (with_reducible refine LeO.ite ?_ ?_)
      | (with_reducible refine LeO.bind ?_ (fun _ => ?_))
      | exact ih0 _ _ _ _ _
      | exact ih1 _ _ _ _ _
      | exact ih2 _ _ _ _ _ _
      | exact ih3 _ _ _ _ _ _
      | exact ih4 _ _ _ _ _ _ _ _
      | exact ih5 _ _ _ _ _ _ _ _
      | exact gluepotlaw16_awake.mono _
      | exact gluepotref01_Texts.mono _ _ _
      | exact gluepotref16_Join.mono _ _ _ _
      | exact naive_Join.mono _ _ _ _
      | exact LeO.none _
      | refine LeO.ite ?_ ?_
      | refine LeO.bind ?_ (fun _ => ?_)
    · intro y0 y1 y2 y3 y4 y5
      unfold gluepotlaw16_NaiveBest.l1
      repeat' first
      | (with_reducible exact ih0 _ _ _ _ _)
      | (with_reducible exact ih1 _ _ _ _ _)
      | (with_reducible exact ih2 _ _ _ _ _ _)
      | (with_reducible exact ih3 _ _ _ _ _ _)
      | (with_reducible exact ih4 _ _ _ _ _ _ _ _)
      | (with_reducible exact ih5 _ _ _ _ _ _ _ _)
      | (with_reducible exact gluepotlaw16_awake.mono _)
      | (with_reducible exact gluepotref01_Texts.mono _ _ _)
      | (with_reducible exact gluepotref16_Join.mono _ _ _ _)
      | (with_reducible exact naive_Join.mono _ _ _ _)
      | (with_reducible exact LeO.refl _)
      | (with_reducible exact LeO.none _)
      | (with_reducible refine LeO.ite ?_ ?_)
      | (with_reducible refine LeO.bind ?_ (fun _ => ?_))
      | exact ih0 _ _ _ _ _
      | exact ih1 _ _ _ _ _
      | exact ih2 _ _ _ _ _ _
      | exact ih3 _ _ _ _ _ _
      | exact ih4 _ _ _ _ _ _ _ _
      | exact ih5 _ _ _ _ _ _ _ _
      | exact gluepotlaw16_awake.mono _
      | exact gluepotref01_Texts.mono _ _ _
      | exact gluepotref16_Join.mono _ _ _ _
      | exact naive_Join.mono _ _ _ _
      | exact LeO.none _
      | refine LeO.ite ?_ ?_
      | refine LeO.bind ?_ (fun _ => ?_)
    · intro y0 y1 y2 y3 y4 y5 y6 y7
      unfold gluepotlaw16_NaiveBest.j4
      repeat' first
      | (with_reducible exact ih0 _ _ _ _ _)
      | (with_reducible exact ih1 _ _ _ _ _)
      | (with_reducible exact ih2 _ _ _ _ _ _)
      | (with_reducible exact ih3 _ _ _ _ _ _)
      | (with_reducible exact ih4 _ _ _ _ _ _ _ _)
      | (with_reducible exact ih5 _ _ _ _ _ _ _ _)
      | (with_reducible exact gluepotlaw16_awake.mono _)
      | (with_reducible exact gluepotref01_Texts.mono _ _ _)
      | (with_reducible exact gluepotref16_Join.mono _ _ _ _)
      | (with_reducible exact naive_Join.mono _ _ _ _)
      | (with_reducible exact LeO.refl _)
      | (with_reducible exact LeO.none _)
      | (with_reducible refine LeO.ite ?_ ?_)
      | (with_reducible refine LeO.bind ?_ (fun _ => ?_))
      | exact ih0 _ _ _ _ _
      | exact ih1 _ _ _ _ _
      | exact ih2 _ _ _ _ _ _
      | exact ih3 _ _ _ _ _ _
      | exact ih4 _ _ _ _ _ _ _ _
      | exact ih5 _ _ _ _ _ _ _ _
      | exact gluepotlaw16_awake.mono _
      | exact gluepotref01_Texts.mono _ _ _
      | exact gluepotref16_Join.mono _ _ _ _
      | exact naive_Join.mono _ _ _ _
      | exact LeO.none _
      | refine LeO.ite ?_ ?_
      | refine LeO.bind ?_ (fun _ => ?_)
    · intro y0 y1 y2 y3 y4 y5 y6 y7
      unfold gluepotlaw16_NaiveBest.l2
      repeat' first
      | (with_reducible exact ih0 _ _ _ _ _)
      | (with_reducible exact ih1 _ _ _ _ _)
      | (with_reducible exact ih2 _ _ _ _ _ _)
      | (with_reducible exact ih3 _ _ _ _ _ _)
      | (with_reducible exact ih4 _ _ _ _ _ _ _ _)
      | (with_reducible exact ih5 _ _ _ _ _ _ _ _)
      | (with_reducible exact gluepotlaw16_awake.mono _)
      | (with_reducible exact gluepotref01_Texts.mono _ _ _)
      | (with_reducible exact gluepotref16_Join.mono _ _ _ _)
      | (with_reducible exact naive_Join.mono _ _ _ _)
      | (with_reducible exact LeO.refl _)
      | (with_reducible exact LeO.none _)
      | (with_reducible refine LeO.ite ?_ ?_)
      | (with_reducible refine LeO.bind ?_ (fun _ => ?_))
      | exact ih0 _ _ _ _ _
      | exact ih1 _ _ _ _ _
      | exact ih2 _ _ _ _ _ _
      | exact ih3 _ _ _ _ _ _
      | exact ih4 _ _ _ _ _ _ _ _
      | exact ih5 _ _ _ _ _ _ _ _
      | exact gluepotlaw16_awake.mono _
      | exact gluepotref01_Texts.mono _ _ _
      | exact gluepotref16_Join.mono _ _ _ _
      | exact naive_Join.mono _ _ _ _
      | exact LeO.none _
      | refine LeO.ite ?_ ?_
      | refine LeO.bind ?_ (fun _ => ?_)
theorem gluepotlaw16_NaiveBest.mono : ∀ a0 a1 a2 a3 k, LeO (gluepotlaw16_NaiveBest.f k a0 a1 a2 a3) (gluepotlaw16_NaiveBest.f (k + 1) a0 a1 a2 a3) := by
  intro a0 a1 a2 a3 k
  obtain ⟨ih0, ih1, ih2, ih3, ih4, ih5⟩ := gluepotlaw16_NaiveBest.mono_l k
  unfold gluepotlaw16_NaiveBest.f
  repeat' first
      | (with_reducible exact ih0 _ _ _ _ _)
      | (with_reducible exact ih1 _ _ _ _ _)
      | (with_reducible exact ih2 _ _ _ _ _ _)
      | (with_reducible exact ih3 _ _ _ _ _ _)
      | (with_reducible exact ih4 _ _ _ _ _ _ _ _)
      | (with_reducible exact ih5 _ _ _ _ _ _ _ _)
      | (with_reducible exact gluepotlaw16_awake.mono _)
      | (with_reducible exact gluepotref01_Texts.mono _ _ _)
      | (with_reducible exact gluepotref16_Join.mono _ _ _ _)
      | (with_reducible exact naive_Join.mono _ _ _ _)
      | (with_reducible exact LeO.refl _)
      | (with_reducible exact LeO.none _)
      | (with_reducible refine LeO.ite ?_ ?_)
      | (with_reducible refine LeO.bind ?_ (fun _ => ?_))
      | exact ih0 _ _ _ _ _
      | exact ih1 _ _ _ _ _
      | exact ih2 _ _ _ _ _ _
      | exact ih3 _ _ _ _ _ _
      | exact ih4 _ _ _ _ _ _ _ _
      | exact ih5 _ _ _ _ _ _ _ _
      | exact gluepotlaw16_awake.mono _
      | exact gluepotref01_Texts.mono _ _ _
      | exact gluepotref16_Join.mono _ _ _ _
      | exact naive_Join.mono _ _ _ _
      | exact LeO.none _
      | refine LeO.ite ?_ ?_
      | refine LeO.bind ?_ (fun _ => ?_)
def gluepotlaw16_NaiveBest.T22 : Bool × List (List Nat × List Nat) := (true, [([], []), ([], []), ([0, 1], [0, 1]), ([2], [2]), ([], []), ([3, 4], [3, 4]), ([], []), ([], []), ([6, 7], [6, 7]), ([8], [8]), ([], []), ([9, 10, 5], [9, 10]), ([5, 11, 11], [5, 11]), ([12], [12]), ([13, 12], [13]), ([14], [14]), ([14], [14]), ([15, 16, 14], [14, 15, 16]), ([17, 14], [14, 17]), ([14], [14]), ([18, 19, 14, 14], [14, 18, 19]), ([14], [14]), ([14], [14]), ([21, 22, 14], [14, 21, 22]), ([23, 14], [14, 23]), ([14], [14]), ([24, 25, 20, 14], [14, 24, 25]), ([20, 26, 26, 14], [14, 20, 26]), ([27, 14], [14, 27]), ([14, 28], [14, 28])])
def gluepotlaw16_NaiveBest.B22 : List Nat := [0, 0, 3, 7, 0, 31, 0, 0, 192, 448, 0, 2047, 4095, 8191, 16383, 32767, 32767, 131071, 262143, 32767, 1048575, 32767, 32767, 6324223, 14712831, 32767, 67108863, 134217727, 268435455, 536870911]
theorem gluepotlaw16_NaiveBest.tab22 : rtab .any (opsOf Try.f6 22) = gluepotlaw16_NaiveBest.T22 := by kernel_rfl
theorem gluepotlaw16_NaiveBest.bits22 : waitsOk gluepotlaw16_NaiveBest.T22.2 gluepotlaw16_NaiveBest.B22 = true := by kernel_rfl
set_option maxHeartbeats 8000000 in
set_option maxRecDepth 100000 in
theorem gluepotlaw16_NaiveBest.calls (k : Nat) (A0 : Option Addr) (c0 : Nat) (l0 : List (List ByteArray)) (A1 : Option Addr) (c1 : Nat) (l1 : List Int) (a2_0 : ByteArray) (a2_1 : ByteArray) (r : Bool) (w : World) (hr0 : Kd.C (Kd.slice 9 Kd.string) w A0 l0.length l0) (hc0 : l0.length ≤ c0) (hr1 : Kd.C (Kd.int .i64) w A1 l1.length l1) (hc1 : l1.length ≤ c1) (h : gluepotlaw16_NaiveBest.f k l0 l1 a2_0 a2_1 = some r) :
    Calls Try.prog 6 #[.slice A0 l0.length c0, .slice A1 l1.length c1, .agg #[.string a2_0, .string a2_1]] w fun e w' => e = .returned (.bool r) ∧ Below w.heap.size w w' := by
  have hu45 := Try.underlying45
  have HR0 := Aside0.mk hr0
  have HC0 := Aside0.mk hc0
  clear hr0 hc0
  have HR1 := Aside0.mk hr1
  have HC1 := Aside0.mk hc1
  clear hr1 hc1
  have HB := Aside0.mk (Below.refl w.heap.size w)
  have H : ((gluepotlaw16_awake.f k).bind fun t394 => (if t394 = true then (if (l0.length : Int) > 20 then (gluepotlaw16_NaiveBest.j0 k l0 l1 true a2_0 a2_1) else (if (a2_0.size : Int) > 20 then (gluepotlaw16_NaiveBest.j0 k l0 l1 true a2_0 a2_1) else (gluepotlaw16_NaiveBest.j0 k l0 l1 (decide ((a2_1.size : Int) > 20)) a2_0 a2_1))) else none)) = some r := h
  clear h
  replace H := Option.bind_eq_some_iff.mp H
  obtain ⟨t394, A40, H⟩ := H
  replace H : (if t394 = true then (if (l0.length : Int) > 20 then (gluepotlaw16_NaiveBest.j0 k l0 l1 true a2_0 a2_1) else (if (a2_0.size : Int) > 20 then (gluepotlaw16_NaiveBest.j0 k l0 l1 true a2_0 a2_1) else (gluepotlaw16_NaiveBest.j0 k l0 l1 (decide ((a2_1.size : Int) > 20)) a2_0 a2_1))) else none) = some r := H
  have A4 := Aside0.mk A40
  clear A40
  by_cases c5 : t394 = true
  · subst c5
    have H1 : (if (l0.length : Int) > 20 then (gluepotlaw16_NaiveBest.j0 k l0 l1 true a2_0 a2_1) else (if (a2_0.size : Int) > 20 then (gluepotlaw16_NaiveBest.j0 k l0 l1 true a2_0 a2_1) else (gluepotlaw16_NaiveBest.j0 k l0 l1 (decide ((a2_1.size : Int) > 20)) a2_0 a2_1))) = some r := by rw [if_pos rfl] at H; exact H
    clear H
    have H := H1
    clear H1
    have HC6 := Aside0.mk H
    clear H
    go_enter Try.func6, Try.ntmps6
    go_upto_region 3 with (first | ((with_reducible refine gate_dst (N := 5) rfl ?_); (try (refine gate_guard (by rfl) ?_; dsimp only)); refine box_event ?hg (N := 5) ?hd (cs := #[.string a2_0, .string a2_1]) (t := 45) ?hr ?_; (case hd => rfl); (case hg => rfl); (case hr => first | (go_simp; done) | (go_simp; rfl)); intro gb393 hg w7 hbox hb; have n0_ := Aside0.mk (below_step (by repeat (first | (with_reducible first | exact HB.out | apply below_alloc | apply pw_below_drewN | apply below_drew1) | exact HB.out)) hb); have n1_ := Aside0.mk (hbox); have n2_ := Aside0.mk ((by rw [hg]; exact (below_size (by repeat (first | (with_reducible first | exact HB.out | apply below_alloc | apply pw_below_drewN | apply below_drew1) | exact HB.out))) : w.heap.size ≤ gb393)); have n3_ := Aside0.mk ((by rw [hg]; exact (below_size (by repeat (first | (with_reducible first | exact HB.out | apply below_alloc | apply pw_below_drewN | apply below_drew1) | exact HB.out))) : w.heap.size ≤ gb393)); clear HB; have HB := n0_; have BK393 := n1_; have GW393 := n2_; have GE393 := n3_; clear n0_ n1_ n2_ n3_; clear hb hbox hg) | ((with_reducible refine gate_callee (f := 20) rfl ?_); refine goesL_ (some 14) rfl rfl Try.func20 (by kernel_rfl) rfl #[] rfl (by (try simp only [List.map_toArray, List.map_cons, List.map_nil]); first | done | rfl | (simp only [List.length_drop, List.length_take]; rfl)) ?_; (with_reducible refine (gluepotlaw16_awake.calls k  true _ A4.out).mono ?_); rintro e w8 ⟨rfl, hb⟩; refine ⟨_, rfl, ?_⟩; have n0_ := Aside0.mk (blk_below (g := gb393) (o := .cells #[.string a2_0, .string a2_1] 45 (0, 0)) (by (with_reducible repeat (first | refine blk_drewN ?_ _ | refine blk_drew ?_ | refine blk_alloc ?_ _)); exact BK393.out) hb); have n1_ := Aside0.mk (below_step (by repeat (first | (with_reducible first | exact HB.out | apply below_alloc | apply pw_below_drewN | apply below_drew1 | refine below_set ?_ GE393.out) | exact HB.out)) hb); clear BK393; clear HB; have BK393 := n0_; have HB := n1_; clear n0_ n1_; (try clear hb); (try clear hb2); (try clear hk); (try clear hi)))
    (try simp only [Act.put, List.setIfInBounds_toArray, List.set_cons_zero, List.set_cons_succ])
    go_cut [30] (fun v30 wc => ∃ (kq : Nat) (x30_5 : Bool), v30 = .bool x30_5 ∧ Aside0 (gluepotlaw16_NaiveBest.j0 kq l0 l1 x30_5 a2_0 a2_1 = some r) ∧ Aside0 (kq ≤ k) ∧ Aside0 (wc.heap[gb393]? = some (.cells #[.string a2_0, .string a2_1] 45 (0, 0))) ∧ Aside0 (Below w.heap.size w wc))
    case first =>
      have H := HC6.out
      clear HC6
      by_cases c9 : (l0.length : Int) > 20
      · rw [if_pos c9] at H
        have c9b0 : decide (20 < (l0.length : Int)) = true := decide_eq_true c9
        have c9b1 : decide (20 < l0.length) = true := decide_eq_true (by omega)
        clear c9
        (first | rw [c9b0] | (simp only [i64_w, i32_w]; rw [c9b0]) | skip)
        have H' := Aside0.mk H
        clear H
        go_wp2
        go_meet
        case rel => exact ⟨_, (true), (by first | rfl | (simp; done) | (simp [*]; done)), H', ⟨by first | omega | exact Nat.le_refl _⟩, ⟨by (with_reducible repeat (first | refine blk_drewN ?_ _ | refine blk_drew ?_ | refine blk_alloc ?_ _)); exact BK393.out⟩, ⟨by repeat (first | (with_reducible first | exact HB.out | apply below_alloc | apply pw_below_drewN | apply below_drew1 | refine below_set ?_ GE393.out) | exact HB.out)⟩⟩
      · rw [if_neg c9] at H
        have c9b0 : decide (20 < (l0.length : Int)) = false := decide_eq_false c9
        have c9b1 : decide (20 < l0.length) = false := decide_eq_false (by omega)
        clear c9
        (first | rw [c9b0] | (simp only [i64_w, i32_w]; rw [c9b0]) | skip)
        by_cases c10 : (a2_0.size : Int) > 20
        · rw [if_pos c10] at H
          have c10b0 : decide (20 < (a2_0.size : Int)) = true := decide_eq_true c10
          have c10b1 : decide (20 < a2_0.size) = true := decide_eq_true (by omega)
          clear c10
          have H' := Aside0.mk H
          clear H
          have hcz11_0 : w8.cell? ⟨gb393, 0, none⟩ = some (.string a2_0) := (blk_cell BK393.out 0).trans rfl
          have hcz11_1 : w8.cell? ⟨gb393, 1, none⟩ = some (.string a2_1) := (blk_cell BK393.out 1).trans rfl
          have hfz11_0 := blk_frozen BK393.out 0
          have hfz11_1 := blk_frozen BK393.out 1
          go_wp2
          go_meet
          case rel => exact ⟨_, (true), (by first | rfl | (simp; done) | (simp [*]; done)), H', ⟨by first | omega | exact Nat.le_refl _⟩, ⟨by (with_reducible repeat (first | refine blk_drewN ?_ _ | refine blk_drew ?_ | refine blk_alloc ?_ _)); exact BK393.out⟩, ⟨by repeat (first | (with_reducible first | exact HB.out | apply below_alloc | apply pw_below_drewN | apply below_drew1 | refine below_set ?_ GE393.out) | exact HB.out)⟩⟩
        · rw [if_neg c10] at H
          have c10b0 : decide (20 < (a2_0.size : Int)) = false := decide_eq_false c10
          have c10b1 : decide (20 < a2_0.size) = false := decide_eq_false (by omega)
          clear c10
          have H' := Aside0.mk H
          clear H
          have hcz12_0 : w8.cell? ⟨gb393, 0, none⟩ = some (.string a2_0) := (blk_cell BK393.out 0).trans rfl
          have hcz12_1 : w8.cell? ⟨gb393, 1, none⟩ = some (.string a2_1) := (blk_cell BK393.out 1).trans rfl
          have hfz12_0 := blk_frozen BK393.out 0
          have hfz12_1 := blk_frozen BK393.out 1
          go_wp2
          go_meet
          case rel => exact ⟨_, (decide ((a2_1.size : Int) > 20)), (by first | rfl | (simp; done) | (simp [*]; done)), H', ⟨by first | omega | exact Nat.le_refl _⟩, ⟨by (with_reducible repeat (first | refine blk_drewN ?_ _ | refine blk_drew ?_ | refine blk_alloc ?_ _)); exact BK393.out⟩, ⟨by repeat (first | (with_reducible first | exact HB.out | apply below_alloc | apply pw_below_drewN | apply below_drew1 | refine below_set ?_ GE393.out) | exact HB.out)⟩⟩
    case rest =>
      clear HC6
      try clear c1
      try clear c2
      try clear p2
      try clear c5
      try clear c6
      try clear c9
      try clear c9b0
      try clear c9b1
      try clear c10
      try clear c10b0
      try clear c10b1
      try clear hcz11_0
      try clear hcz11_1
      try clear hcz12_0
      try clear hcz12_1
      try clear hfz11_0
      try clear hfz11_1
      try clear hfz12_0
      try clear hfz12_1
      obtain ⟨kq, x30_5, rfl, HA, HJ5, BK393, HB⟩ := hcut
      cases kq with
      | zero => exact absurd HA.out (by simp [gluepotlaw16_NaiveBest.j0])
      | succ kj5 =>
        have H := HA.out
        clear HA
        simp only [gluepotlaw16_NaiveBest.j0] at H
        by_cases c13 : x30_5 = true
        · subst c13
          have H1 : (some true) = some r := by rw [if_pos rfl] at H; exact H
          clear H
          have H := H1
          clear H1
          obtain rfl := Option.some.inj H
          go_wp2
          go_ret
          exact ⟨by first | rfl | (simp [errW_none, errW_some] <;> rfl) | (simp [*, errW_none, errW_some] <;> rfl), by repeat (first | (with_reducible first | exact HB.out | apply below_alloc | apply pw_below_drewN | apply below_drew1 | refine below_set ?_ GE393.out) | exact HB.out)⟩
        · replace c13 := Bool.eq_false_iff.mpr c13
          subst c13
          have H1 : (gluepotlaw16_NaiveBest.l0 kj5 l0 l1 0 a2_0 a2_1) = some r := by rw [if_neg (show ¬ (false = true) by decide)] at H; exact H
          clear H
          have H := H1
          clear H1
          have H' := Aside0.mk H
          clear H
          go_wp2
          go_loopg [7] kj5 (fun kq v7 w' => ∃ (x7_2 : Int), v7 = .int .i64 x7_2 ∧ Aside0 (gluepotlaw16_NaiveBest.l0 kq l0 l1 x7_2 a2_0 a2_1 = some r) ∧ Aside0 (kq ≤ kj5) ∧ Aside0 (w'.heap[gb393]? = some (.cells #[.string a2_0, .string a2_1] 45 (0, 0))) ∧ Aside0 (Below w.heap.size w w'))
          case atStart => exact ⟨(0), (by first | rfl | (simp; done) | (simp [*]; done)), H', ⟨Nat.le_refl _⟩, ⟨by (with_reducible repeat (first | refine blk_drewN ?_ _ | refine blk_drew ?_ | refine blk_alloc ?_ _)); exact BK393.out⟩, ⟨by repeat (first | (with_reducible first | exact HB.out | apply below_alloc | apply pw_below_drewN | apply below_drew1 | refine below_set ?_ GE393.out) | exact HB.out)⟩⟩
          case round =>
            clear H'
            try clear c1
            try clear c2
            try clear p2
            try clear c5
            try clear c6
            try clear c9
            try clear c9b0
            try clear c9b1
            try clear c10
            try clear c10b0
            try clear c10b1
            try clear c13
            try clear hcz11_0
            try clear hcz11_1
            try clear hcz12_0
            try clear hcz12_1
            try clear hfz11_0
            try clear hfz11_1
            try clear hfz12_0
            try clear hfz12_1
            try clear p2
            obtain ⟨x7_2, rfl, HA, HK2, BK393, HB⟩ := hrel
            cases gk with
            | zero => exact absurd HA.out (by simp [gluepotlaw16_NaiveBest.l0])
            | succ k2 =>
              have H := HA.out
              clear HA
              simp only [gluepotlaw16_NaiveBest.l0] at H
              by_cases c14 : x7_2 < (l0.length : Int)
              · rw [if_pos c14] at H
                have c14b0 : decide (x7_2 < (l0.length : Int)) = true := decide_eq_true c14
                clear c14
                have HC15 := Aside0.mk H
                clear H
                go_upto_region 8 with (fail)
                go_cut [55] (fun v55 wc => ∃ (kq : Nat) (x55_14 : Bool), v55 = .bool x55_14 ∧ Aside0 (gluepotlaw16_NaiveBest.j2 kq l0 l1 x7_2 x55_14 a2_0 a2_1 = some r) ∧ Aside0 (kq ≤ k2) ∧ Aside0 (wc.heap[gb393]? = some (.cells #[.string a2_0, .string a2_1] 45 (0, 0))) ∧ Aside0 (Below w.heap.size w wc))
                case first =>
                  have H := HC15.out
                  clear HC15
                  by_cases c16 : 0 ≤ x7_2
                  · rw [if_pos c16] at H
                    have c16b0 : decide (0 ≤ x7_2) = true := decide_eq_true c16
                    clear c16
                    (first | rw [c16b0] | (simp only [i64_w, i32_w]; rw [c16b0]) | skip)
                    by_cases c17 : ((rd_L4 l0 x7_2).length : Int) > 40
                    · rw [if_pos c17] at H
                      have c17b0 : decide (40 < ((rd_L4 l0 x7_2).length : Int)) = true := decide_eq_true c17
                      have c17b1 : decide (40 < (rd_L4 l0 x7_2).length) = true := decide_eq_true (by omega)
                      clear c17
                      have H' := Aside0.mk H
                      clear H
                      have p395 : 0 ≤ (x7_2 : Int) := of_decide_eq_true (by first | (with_reducible assumption) | assumption)
                      have q395 : x7_2 < (l0.length : Int) := of_decide_eq_true (by first | (with_reducible assumption) | assumption)
                      obtain ⟨ad395, A395_0, c395_0, e395, hx395_0, hl395_0, hi395_0⟩ := at_L4 HR0.out x7_2 p395 q395
                      cases e395
                      replace hx395_0 := (HB.out.cell (World.block_lt_of_cell? w _ hx395_0)).trans hx395_0
                      have HR395_0 := Aside0.mk hi395_0
                      have HC395_0 := Aside0.mk hl395_0
                      clear hi395_0 hl395_0
                      replace p395 := eq_true p395
                      replace q395 := eq_true q395
                      go_wp2
                      go_meet
                      case rel => exact ⟨_, (true), (by first | rfl | (simp; done) | (simp [*]; done)), H', ⟨by have := HJ5.out; have := HK2.out; first | omega | exact Nat.le_refl _⟩, ⟨by (with_reducible repeat (first | refine blk_drewN ?_ _ | refine blk_drew ?_ | refine blk_alloc ?_ _)); exact BK393.out⟩, ⟨by repeat (first | (with_reducible first | exact HB.out | apply below_alloc | apply pw_below_drewN | apply below_drew1 | refine below_set ?_ GE393.out) | exact HB.out)⟩⟩
                    · rw [if_neg c17] at H
                      have c17b0 : decide (40 < ((rd_L4 l0 x7_2).length : Int)) = false := decide_eq_false c17
                      have c17b1 : decide (40 < (rd_L4 l0 x7_2).length) = false := decide_eq_false (by omega)
                      clear c17
                      by_cases c18 : x7_2 < (l1.length : Int)
                      · rw [if_pos c18] at H
                        have c18b0 : decide (x7_2 < (l1.length : Int)) = true := decide_eq_true c18
                        clear c18
                        have H' := Aside0.mk H
                        clear H
                        have p395 : 0 ≤ (x7_2 : Int) := of_decide_eq_true (by first | (with_reducible assumption) | assumption)
                        have q395 : x7_2 < (l0.length : Int) := of_decide_eq_true (by first | (with_reducible assumption) | assumption)
                        obtain ⟨ad395, A395_0, c395_0, e395, hx395_0, hl395_0, hi395_0⟩ := at_L4 HR0.out x7_2 p395 q395
                        cases e395
                        replace hx395_0 := (HB.out.cell (World.block_lt_of_cell? w _ hx395_0)).trans hx395_0
                        have HR395_0 := Aside0.mk hi395_0
                        have HC395_0 := Aside0.mk hl395_0
                        clear hi395_0 hl395_0
                        replace p395 := eq_true p395
                        replace q395 := eq_true q395
                        have p396 : 0 ≤ (x7_2 : Int) := of_decide_eq_true (by first | (with_reducible assumption) | assumption)
                        have q396 : x7_2 < (l1.length : Int) := of_decide_eq_true (by first | (with_reducible assumption) | assumption)
                        obtain ⟨ad396, e396, hx396_0⟩ := Kd.at_int HR1.out x7_2 p396 q396
                        cases e396
                        replace hx396_0 := (HB.out.cell (World.block_lt_of_cell? w _ hx396_0)).trans hx396_0
                        replace p396 := eq_true p396
                        replace q396 := eq_true q396
                        go_wp2
                        go_meet
                        case rel => exact ⟨_, (decide ((rd l1 x7_2) > 1000000)), (by first | rfl | (simp; done) | (simp [*]; done)), H', ⟨by have := HJ5.out; have := HK2.out; first | omega | exact Nat.le_refl _⟩, ⟨by (with_reducible repeat (first | refine blk_drewN ?_ _ | refine blk_drew ?_ | refine blk_alloc ?_ _)); exact BK393.out⟩, ⟨by repeat (first | (with_reducible first | exact HB.out | apply below_alloc | apply pw_below_drewN | apply below_drew1 | refine below_set ?_ GE393.out) | exact HB.out)⟩⟩
                      · rw [if_neg c18] at H
                        have c18b0 : decide (x7_2 < (l1.length : Int)) = false := decide_eq_false c18
                        clear c18
                        have H' := Aside0.mk H
                        clear H
                        have p395 : 0 ≤ (x7_2 : Int) := of_decide_eq_true (by first | (with_reducible assumption) | assumption)
                        have q395 : x7_2 < (l0.length : Int) := of_decide_eq_true (by first | (with_reducible assumption) | assumption)
                        obtain ⟨ad395, A395_0, c395_0, e395, hx395_0, hl395_0, hi395_0⟩ := at_L4 HR0.out x7_2 p395 q395
                        cases e395
                        replace hx395_0 := (HB.out.cell (World.block_lt_of_cell? w _ hx395_0)).trans hx395_0
                        have HR395_0 := Aside0.mk hi395_0
                        have HC395_0 := Aside0.mk hl395_0
                        clear hi395_0 hl395_0
                        replace p395 := eq_true p395
                        replace q395 := eq_true q395
                        go_wp2
                        go_meet
                        case rel => exact ⟨_, (false), (by first | rfl | (simp; done) | (simp [*]; done)), H', ⟨by have := HJ5.out; have := HK2.out; first | omega | exact Nat.le_refl _⟩, ⟨by (with_reducible repeat (first | refine blk_drewN ?_ _ | refine blk_drew ?_ | refine blk_alloc ?_ _)); exact BK393.out⟩, ⟨by repeat (first | (with_reducible first | exact HB.out | apply below_alloc | apply pw_below_drewN | apply below_drew1 | refine below_set ?_ GE393.out) | exact HB.out)⟩⟩
                  · rw [if_neg c16] at H
                    exact absurd H (by simp)
                case rest =>
                  clear HC15
                  try clear c1
                  try clear c2
                  try clear p2
                  try clear c3
                  try clear p3
                  try clear q3
                  try clear hx3
                  try clear c5
                  try clear c6
                  try clear c9
                  try clear c9b0
                  try clear c9b1
                  try clear c10
                  try clear c10b0
                  try clear c10b1
                  try clear c13
                  try clear c14
                  try clear c14b0
                  try clear c16
                  try clear c16b0
                  try clear c17
                  try clear c17b0
                  try clear c17b1
                  try clear c18
                  try clear c18b0
                  try clear hcz11_0
                  try clear hcz11_1
                  try clear hcz12_0
                  try clear hcz12_1
                  try clear hfz11_0
                  try clear hfz11_1
                  try clear hfz12_0
                  try clear hfz12_1
                  try clear hx395_0
                  try clear hx396_0
                  try clear p2
                  try clear p395
                  try clear p396
                  try clear q395
                  try clear q396
                  obtain ⟨kq, x55_14, rfl, HA, HJ14, BK393, HB⟩ := hcut
                  cases kq with
                  | zero => exact absurd HA.out (by simp [gluepotlaw16_NaiveBest.j2])
                  | succ kj14 =>
                    have H := HA.out
                    clear HA
                    simp only [gluepotlaw16_NaiveBest.j2] at H
                    by_cases c19 : x55_14 = true
                    · subst c19
                      have H1 : (some true) = some r := by rw [if_pos rfl] at H; exact H
                      clear H
                      have H := H1
                      clear H1
                      obtain rfl := Option.some.inj H
                      go_wp2
                      go_ret
                      exact ⟨by first | rfl | (simp [errW_none, errW_some] <;> rfl) | (simp [*, errW_none, errW_some] <;> rfl), by repeat (first | (with_reducible first | exact HB.out | apply below_alloc | apply pw_below_drewN | apply below_drew1 | refine below_set ?_ GE393.out) | exact HB.out)⟩
                    · replace c19 := Bool.eq_false_iff.mpr c19
                      subst c19
                      have H1 : (gluepotlaw16_NaiveBest.l1 kj14 l0 l1 x7_2 0 a2_0 a2_1) = some r := by rw [if_neg (show ¬ (false = true) by decide)] at H; exact H
                      clear H
                      have H := H1
                      clear H1
                      have H' := Aside0.mk H
                      clear H
                      go_wp2
                      go_loopg [8] kj14 (fun kq v8 w' => ∃ (x8_4 : Int), v8 = .int .i64 x8_4 ∧ Aside0 (gluepotlaw16_NaiveBest.l1 kq l0 l1 x7_2 x8_4 a2_0 a2_1 = some r) ∧ Aside0 (kq ≤ kj14) ∧ Aside0 (w'.heap[gb393]? = some (.cells #[.string a2_0, .string a2_1] 45 (0, 0))) ∧ Aside0 (Below w.heap.size w w'))
                      case atStart => exact ⟨(0), (by first | rfl | (simp; done) | (simp [*]; done)), H', ⟨Nat.le_refl _⟩, ⟨by (with_reducible repeat (first | refine blk_drewN ?_ _ | refine blk_drew ?_ | refine blk_alloc ?_ _)); exact BK393.out⟩, ⟨by repeat (first | (with_reducible first | exact HB.out | apply below_alloc | apply pw_below_drewN | apply below_drew1 | refine below_set ?_ GE393.out) | exact HB.out)⟩⟩
                      case round =>
                        clear H'
                        try clear c1
                        try clear c2
                        try clear p2
                        try clear c3
                        try clear p3
                        try clear q3
                        try clear hx3
                        try clear c5
                        try clear c6
                        try clear c9
                        try clear c9b0
                        try clear c9b1
                        try clear c10
                        try clear c10b0
                        try clear c10b1
                        try clear c13
                        try clear c14
                        try clear c14b0
                        try clear c16
                        try clear c16b0
                        try clear c17
                        try clear c17b0
                        try clear c17b1
                        try clear c18
                        try clear c18b0
                        try clear c19
                        try clear hcz11_0
                        try clear hcz11_1
                        try clear hcz12_0
                        try clear hcz12_1
                        try clear hfz11_0
                        try clear hfz11_1
                        try clear hfz12_0
                        try clear hfz12_1
                        try clear hx395_0
                        try clear hx396_0
                        try clear p2
                        try clear p3
                        try clear p395
                        try clear p396
                        try clear q3
                        try clear q395
                        try clear q396
                        obtain ⟨x8_4, rfl, HA, HK4, BK393, HB⟩ := hrel
                        cases gk with
                        | zero => exact absurd HA.out (by simp [gluepotlaw16_NaiveBest.l1])
                        | succ k4 =>
                          have H := HA.out
                          clear HA
                          simp only [gluepotlaw16_NaiveBest.l1] at H
                          by_cases c20 : 0 ≤ x7_2
                          · rw [if_pos c20] at H
                            have c20b0 : decide (0 ≤ x7_2) = true := decide_eq_true c20
                            clear c20
                            by_cases c21 : x7_2 < (l0.length : Int)
                            · rw [if_pos c21] at H
                              have c21b0 : decide (x7_2 < (l0.length : Int)) = true := decide_eq_true c21
                              clear c21
                              by_cases c22 : x8_4 < ((rd_L4 l0 x7_2).length : Int)
                              · rw [if_pos c22] at H
                                have c22b0 : decide (x8_4 < ((rd_L4 l0 x7_2).length : Int)) = true := decide_eq_true c22
                                clear c22
                                by_cases c23 : 0 ≤ x8_4
                                · rw [if_pos c23] at H
                                  have c23b0 : decide (0 ≤ x8_4) = true := decide_eq_true c23
                                  clear c23
                                  by_cases c24 : ((rdOf ByteArray.empty (rd_L4 l0 x7_2) x8_4).size : Int) > 20
                                  · rw [if_pos c24] at H
                                    have c24b0 : decide (20 < ((rdOf ByteArray.empty (rd_L4 l0 x7_2) x8_4).size : Int)) = true := decide_eq_true c24
                                    have c24b1 : decide (20 < (rdOf ByteArray.empty (rd_L4 l0 x7_2) x8_4).size) = true := decide_eq_true (by omega)
                                    clear c24
                                    obtain rfl := Option.some.inj H
                                    have p397 : 0 ≤ (x7_2 : Int) := of_decide_eq_true (by first | (with_reducible assumption) | assumption)
                                    have q397 : x7_2 < (l0.length : Int) := of_decide_eq_true (by first | (with_reducible assumption) | assumption)
                                    obtain ⟨ad397, A397_0, c397_0, e397, hx397_0, hl397_0, hi397_0⟩ := at_L4 HR0.out x7_2 p397 q397
                                    cases e397
                                    replace hx397_0 := (HB.out.cell (World.block_lt_of_cell? w _ hx397_0)).trans hx397_0
                                    have HR397_0 := Aside0.mk hi397_0
                                    have HC397_0 := Aside0.mk hl397_0
                                    clear hi397_0 hl397_0
                                    replace p397 := eq_true p397
                                    replace q397 := eq_true q397
                                    have p398 : 0 ≤ (x7_2 : Int) := of_decide_eq_true (by first | (with_reducible assumption) | assumption)
                                    have q398 : x7_2 < (l0.length : Int) := of_decide_eq_true (by first | (with_reducible assumption) | assumption)
                                    obtain ⟨ad398, A398_0, c398_0, e398, hx398_0, hl398_0, hi398_0⟩ := at_L4 HR0.out x7_2 p398 q398
                                    obtain rfl : ad397 = ad398 := (by injection e398)
                                    replace hx398_0 := (HB.out.cell (World.block_lt_of_cell? w _ hx398_0)).trans hx398_0
                                    have HR398_0 := Aside0.mk hi398_0
                                    have HC398_0 := Aside0.mk hl398_0
                                    clear hi398_0 hl398_0
                                    replace p398 := eq_true p398
                                    replace q398 := eq_true q398
                                    have ea_ := Option.some.inj (hx397_0.symm.trans hx398_0)
                                    injection ea_ with ea_ en_ ec_
                                    subst ea_
                                    subst ec_
                                    clear en_
                                    have p399 : 0 ≤ (x8_4 : Int) := of_decide_eq_true (by first | (with_reducible assumption) | assumption)
                                    have q399 : x8_4 < ((rd_L4 l0 x7_2).length : Int) := of_decide_eq_true (by first | (with_reducible assumption) | assumption)
                                    obtain ⟨ad399, e399, hx399_0⟩ := Kd.at_string HR398_0.out x8_4 p399 q399
                                    cases e399
                                    replace hx399_0 := (HB.out.cell (World.block_lt_of_cell? w _ hx399_0)).trans hx399_0
                                    replace p399 := eq_true p399
                                    replace q399 := eq_true q399
                                    go_wp2
                                    go_ret
                                    exact ⟨by first | rfl | (simp [errW_none, errW_some] <;> rfl) | (simp [*, errW_none, errW_some] <;> rfl), by repeat (first | (with_reducible first | exact HB.out | apply below_alloc | apply pw_below_drewN | apply below_drew1 | refine below_set ?_ GE393.out) | exact HB.out)⟩
                                  · rw [if_neg c24] at H
                                    have c24b0 : decide (20 < ((rdOf ByteArray.empty (rd_L4 l0 x7_2) x8_4).size : Int)) = false := decide_eq_false c24
                                    have c24b1 : decide (20 < (rdOf ByteArray.empty (rd_L4 l0 x7_2) x8_4).size) = false := decide_eq_false (by omega)
                                    clear c24
                                    have H' := Aside0.mk H
                                    clear H
                                    have p397 : 0 ≤ (x7_2 : Int) := of_decide_eq_true (by first | (with_reducible assumption) | assumption)
                                    have q397 : x7_2 < (l0.length : Int) := of_decide_eq_true (by first | (with_reducible assumption) | assumption)
                                    obtain ⟨ad397, A397_0, c397_0, e397, hx397_0, hl397_0, hi397_0⟩ := at_L4 HR0.out x7_2 p397 q397
                                    cases e397
                                    replace hx397_0 := (HB.out.cell (World.block_lt_of_cell? w _ hx397_0)).trans hx397_0
                                    have HR397_0 := Aside0.mk hi397_0
                                    have HC397_0 := Aside0.mk hl397_0
                                    clear hi397_0 hl397_0
                                    replace p397 := eq_true p397
                                    replace q397 := eq_true q397
                                    have p398 : 0 ≤ (x7_2 : Int) := of_decide_eq_true (by first | (with_reducible assumption) | assumption)
                                    have q398 : x7_2 < (l0.length : Int) := of_decide_eq_true (by first | (with_reducible assumption) | assumption)
                                    obtain ⟨ad398, A398_0, c398_0, e398, hx398_0, hl398_0, hi398_0⟩ := at_L4 HR0.out x7_2 p398 q398
                                    obtain rfl : ad397 = ad398 := (by injection e398)
                                    replace hx398_0 := (HB.out.cell (World.block_lt_of_cell? w _ hx398_0)).trans hx398_0
                                    have HR398_0 := Aside0.mk hi398_0
                                    have HC398_0 := Aside0.mk hl398_0
                                    clear hi398_0 hl398_0
                                    replace p398 := eq_true p398
                                    replace q398 := eq_true q398
                                    have ea_ := Option.some.inj (hx397_0.symm.trans hx398_0)
                                    injection ea_ with ea_ en_ ec_
                                    subst ea_
                                    subst ec_
                                    clear en_
                                    have p399 : 0 ≤ (x8_4 : Int) := of_decide_eq_true (by first | (with_reducible assumption) | assumption)
                                    have q399 : x8_4 < ((rd_L4 l0 x7_2).length : Int) := of_decide_eq_true (by first | (with_reducible assumption) | assumption)
                                    obtain ⟨ad399, e399, hx399_0⟩ := Kd.at_string HR398_0.out x8_4 p399 q399
                                    cases e399
                                    replace hx399_0 := (HB.out.cell (World.block_lt_of_cell? w _ hx399_0)).trans hx399_0
                                    replace p399 := eq_true p399
                                    replace q399 := eq_true q399
                                    go_wp2
                                    go_roundg k4
                                    case measure => have := HJ5.out; have := HK2.out; have := HJ14.out; have := HK4.out; omega
                                    case rel => exact ⟨(wrap64 (x8_4 + 1)), (by first | rfl | (simp; done) | (simp [*]; done)), H', ⟨by have := HJ5.out; have := HK2.out; have := HJ14.out; have := HK4.out; omega⟩, ⟨by (with_reducible repeat (first | refine blk_drewN ?_ _ | refine blk_drew ?_ | refine blk_alloc ?_ _)); exact BK393.out⟩, ⟨by repeat (first | (with_reducible first | exact HB.out | apply below_alloc | apply pw_below_drewN | apply below_drew1 | refine below_set ?_ GE393.out) | exact HB.out)⟩⟩
                                · rw [if_neg c23] at H
                                  exact absurd H (by simp)
                              · rw [if_neg c22] at H
                                have c22b0 : decide (x8_4 < ((rd_L4 l0 x7_2).length : Int)) = false := decide_eq_false c22
                                clear c22
                                have H' := Aside0.mk H
                                clear H
                                have p397 : 0 ≤ (x7_2 : Int) := of_decide_eq_true (by first | (with_reducible assumption) | assumption)
                                have q397 : x7_2 < (l0.length : Int) := of_decide_eq_true (by first | (with_reducible assumption) | assumption)
                                obtain ⟨ad397, A397_0, c397_0, e397, hx397_0, hl397_0, hi397_0⟩ := at_L4 HR0.out x7_2 p397 q397
                                cases e397
                                replace hx397_0 := (HB.out.cell (World.block_lt_of_cell? w _ hx397_0)).trans hx397_0
                                have HR397_0 := Aside0.mk hi397_0
                                have HC397_0 := Aside0.mk hl397_0
                                clear hi397_0 hl397_0
                                replace p397 := eq_true p397
                                replace q397 := eq_true q397
                                go_wp2
                                go_roundg k4
                                case measure => have := HJ5.out; have := HK2.out; have := HJ14.out; have := HK4.out; omega
                                case rel => exact ⟨(wrap64 (x7_2 + 1)), (by first | rfl | (simp; done) | (simp [*]; done)), H', ⟨by have := HJ5.out; have := HK2.out; have := HJ14.out; have := HK4.out; omega⟩, ⟨by (with_reducible repeat (first | refine blk_drewN ?_ _ | refine blk_drew ?_ | refine blk_alloc ?_ _)); exact BK393.out⟩, ⟨by repeat (first | (with_reducible first | exact HB.out | apply below_alloc | apply pw_below_drewN | apply below_drew1 | refine below_set ?_ GE393.out) | exact HB.out)⟩⟩
                            · rw [if_neg c21] at H
                              exact absurd H (by simp)
                          · rw [if_neg c20] at H
                            exact absurd H (by simp)
              · rw [if_neg c14] at H
                have c14b0 : decide (x7_2 < (l0.length : Int)) = false := decide_eq_false c14
                clear c14
                replace H := Option.bind_eq_some_iff.mp H
                obtain ⟨⟨t400, t401, t402⟩, A250, H⟩ := H
                replace H : ((gluepotref16_Best.f l0 l1).bind fun bt404 => (if (!(t400.toList == bt404.1.toList) || (!(t401.toList == bt404.2.1.toList))) = true then (gluepotlaw16_NaiveBest.j4 k2 l0 true a2_0 a2_1 t400 t401 bt404.1 bt404.2.1) else (gluepotlaw16_NaiveBest.j4 k2 l0 (t402 != bt404.2.2) a2_0 a2_1 t400 t401 bt404.1 bt404.2.1))) = some r := H
                have A25 := Aside0.mk A250
                clear A250
                replace H := Option.bind_eq_some_iff.mp H
                obtain ⟨⟨t404, t405, t406⟩, A260, H⟩ := H
                replace H : (if (!(t400.toList == t404.toList) || (!(t401.toList == t405.toList))) = true then (gluepotlaw16_NaiveBest.j4 k2 l0 true a2_0 a2_1 t400 t401 t404 t405) else (gluepotlaw16_NaiveBest.j4 k2 l0 (t402 != t406) a2_0 a2_1 t400 t401 t404 t405)) = some r := H
                have A26 := Aside0.mk A260
                clear A260
                have HC27 := Aside0.mk H
                clear H
                go_upto_region 17 with (first | ((with_reducible refine gate_callee (f := 25) rfl ?_); refine goesL_ (some 77) rfl rfl Try.func25 (by kernel_rfl) rfl #[.slice A0 l0.length c0, .slice A1 l1.length c1] rfl (by (try simp only [List.map_toArray, List.map_cons, List.map_nil]); first | done | rfl | (simp only [List.length_drop, List.length_take]; rfl)) ?_; (with_reducible refine (naive_Best.calls _ _ l0 _ _ l1 t400 t401 t402 _ ?side1 ?side2 ?side3 ?side4 A25.out).mono ?_); (case side1 => repeat (first | exact (Kd.C_below HR0.out HB.out) | (with_reducible refine Kd.C_alloc ?_ _) | (with_reducible refine Kd.C_drewN ?_ _) | (with_reducible refine Kd.C_drew ?_))); (case side2 => exact HC0.out); (case side3 => repeat (first | exact (Kd.C_below HR1.out HB.out) | (with_reducible refine Kd.C_alloc ?_ _) | (with_reducible refine Kd.C_drewN ?_ _) | (with_reducible refine Kd.C_drew ?_))); (case side4 => exact HC1.out); rintro e w28 ⟨rfl, hb⟩; refine ⟨_, rfl, ?_⟩; have n0_ := Aside0.mk (blk_below (g := gb393) (o := .cells #[.string a2_0, .string a2_1] 45 (0, 0)) (by (with_reducible repeat (first | refine blk_drewN ?_ _ | refine blk_drew ?_ | refine blk_alloc ?_ _)); exact BK393.out) hb); have n1_ := Aside0.mk (below_step (by repeat (first | (with_reducible first | exact HB.out | apply below_alloc | apply pw_below_drewN | apply below_drew1 | refine below_set ?_ GE393.out) | exact HB.out)) hb); clear BK393; clear HB; have BK393 := n0_; have HB := n1_; clear n0_ n1_; (try clear hb); (try clear hb2); (try clear hk); (try clear hi)) | ((with_reducible refine gate_dst (N := 9) rfl ?_); (try (refine gate_guard (by rfl) ?_; dsimp only)); refine box_event ?hg (N := 9) ?hd (cs := #[.string (⟨#[]⟩ : ByteArray), .string (⟨#[]⟩ : ByteArray)]) (t := 45) ?hr ?_; (case hd => rfl); (case hg => rfl); (case hr => first | (go_simp; done) | (go_simp; rfl)); intro gb403 hg w29 hbox hb; have n0_ := Aside0.mk (blk_below (g := gb393) (o := .cells #[.string a2_0, .string a2_1] 45 (0, 0)) (by (with_reducible repeat (first | refine blk_drewN ?_ _ | refine blk_drew ?_ | refine blk_alloc ?_ _)); exact BK393.out) hb); have n1_ := Aside0.mk (below_step (by repeat (first | (with_reducible first | exact HB.out | apply below_alloc | apply pw_below_drewN | apply below_drew1 | refine below_set ?_ GE393.out) | exact HB.out)) hb); have n2_ := Aside0.mk (hbox); have n3_ := Aside0.mk ((by rw [hg]; exact (below_size (by repeat (first | (with_reducible first | exact HB.out | apply below_alloc | apply pw_below_drewN | apply below_drew1 | refine below_set ?_ GE393.out) | exact HB.out))) : w.heap.size ≤ gb403)); have n4_ := Aside0.mk ((by rw [hg]; exact (below_size (by repeat (first | (with_reducible first | exact HB.out | apply below_alloc | apply pw_below_drewN | apply below_drew1 | refine below_set ?_ GE393.out) | exact HB.out))) : w.heap.size ≤ gb403)); have n5_ := Aside0.mk ((by rw [hg]; exact Nat.ne_of_lt (blk_lt (g := gb393) (o := .cells #[.string a2_0, .string a2_1] 45 (0, 0)) (by (with_reducible repeat (first | refine blk_drewN ?_ _ | refine blk_drew ?_ | refine blk_alloc ?_ _)); exact BK393.out)) : gb393 ≠ gb403)); have n6_ := Aside0.mk ((by rw [hg]; exact Nat.ne_of_gt (blk_lt (g := gb393) (o := .cells #[.string a2_0, .string a2_1] 45 (0, 0)) (by (with_reducible repeat (first | refine blk_drewN ?_ _ | refine blk_drew ?_ | refine blk_alloc ?_ _)); exact BK393.out)) : gb403 ≠ gb393)); clear BK393; clear HB; have BK393 := n0_; have HB := n1_; have BK403 := n2_; have GW403 := n3_; have GE403 := n4_; have NB393_403 := n5_; have NB403_393 := n6_; clear n0_ n1_ n2_ n3_ n4_ n5_ n6_; clear hb hbox hg; have hnb30 := NB403_393.out; have hnc30 := NB393_403.out; have hcz31_0 : w29.cell? ⟨gb403, 0, none⟩ = some (.string (⟨#[]⟩ : ByteArray)) := (blk_cell BK403.out 0).trans rfl; have hcz31_1 : w29.cell? ⟨gb403, 1, none⟩ = some (.string (⟨#[]⟩ : ByteArray)) := (blk_cell BK403.out 1).trans rfl; have hfz31_0 := blk_frozen BK403.out 0; have hfz31_1 := blk_frozen BK403.out 1) | ((with_reducible refine gate_callee (f := 26) rfl ?_); refine goesL_ (some 83) rfl rfl Try.func26 (by kernel_rfl) rfl #[.slice A0 l0.length c0, .slice A1 l1.length c1] rfl (by (try simp only [List.map_toArray, List.map_cons, List.map_nil]); first | done | rfl | (simp only [List.length_drop, List.length_take]; rfl)) ?_; (with_reducible refine (gluepotref16_Best.calls _ _ l0 _ _ l1 t404 t405 t406 _ ?side1 ?side2 ?side3 ?side4 A26.out).mono ?_); (case side1 => exact Kd.C_below HR0.out (by repeat (first | (with_reducible first | exact HB.out | apply below_alloc | apply pw_below_drewN | apply below_drew1 | refine below_set ?_ GE393.out | refine below_set ?_ GE403.out) | exact HB.out))); (case side2 => exact HC0.out); (case side3 => exact Kd.C_below HR1.out (by repeat (first | (with_reducible first | exact HB.out | apply below_alloc | apply pw_below_drewN | apply below_drew1 | refine below_set ?_ GE393.out | refine below_set ?_ GE403.out) | exact HB.out))); (case side4 => exact HC1.out); rintro e w32 ⟨rfl, hb⟩; refine ⟨_, rfl, ?_⟩; have n0_ := Aside0.mk (blk_below (g := gb393) (o := .cells #[.string a2_0, .string a2_1] 45 (0, 0)) (by (with_reducible repeat (first | refine blk_drewN ?_ _ | refine blk_drew ?_ | refine blk_alloc ?_ _)); refine blk_far ?_ NB393_403.out _; (with_reducible repeat (first | refine blk_drewN ?_ _ | refine blk_drew ?_ | refine blk_alloc ?_ _)); refine blk_far ?_ NB393_403.out _; (with_reducible repeat (first | refine blk_drewN ?_ _ | refine blk_drew ?_ | refine blk_alloc ?_ _)); exact BK393.out) hb); have n1_ := Aside0.mk (blk_below (g := gb403) (o := .cells #[.string t400, .string t401] 45 (0, 0)) (by (with_reducible repeat (first | refine blk_drewN ?_ _ | refine blk_drew ?_ | refine blk_alloc ?_ _)); refine blk_put (cs := #[.string t400, .string (⟨#[]⟩ : ByteArray)]) ?_ 1 _ rfl; (with_reducible repeat (first | refine blk_drewN ?_ _ | refine blk_drew ?_ | refine blk_alloc ?_ _)); refine blk_put (cs := #[.string (⟨#[]⟩ : ByteArray), .string (⟨#[]⟩ : ByteArray)]) ?_ 0 _ rfl; (with_reducible repeat (first | refine blk_drewN ?_ _ | refine blk_drew ?_ | refine blk_alloc ?_ _)); exact BK403.out) hb); have n2_ := Aside0.mk (below_step (by repeat (first | (with_reducible first | exact HB.out | apply below_alloc | apply pw_below_drewN | apply below_drew1 | refine below_set ?_ GE393.out | refine below_set ?_ GE403.out) | exact HB.out)) hb); clear BK393; clear BK403; clear HB; have BK393 := n0_; have BK403 := n1_; have HB := n2_; clear n0_ n1_ n2_; (try clear hb); (try clear hb2); (try clear hk); (try clear hi)) | ((with_reducible refine gate_dst (N := 11) rfl ?_); (try (refine gate_guard (by rfl) ?_; dsimp only)); refine box_event ?hg (N := 11) ?hd (cs := #[.string (⟨#[]⟩ : ByteArray), .string (⟨#[]⟩ : ByteArray)]) (t := 45) ?hr ?_; (case hd => rfl); (case hg => rfl); (case hr => first | (go_simp; done) | (go_simp; rfl)); intro gb407 hg w33 hbox hb; have n0_ := Aside0.mk (blk_below (g := gb393) (o := .cells #[.string a2_0, .string a2_1] 45 (0, 0)) (by (with_reducible repeat (first | refine blk_drewN ?_ _ | refine blk_drew ?_ | refine blk_alloc ?_ _)); exact BK393.out) hb); have n1_ := Aside0.mk (blk_below (g := gb403) (o := .cells #[.string t400, .string t401] 45 (0, 0)) (by (with_reducible repeat (first | refine blk_drewN ?_ _ | refine blk_drew ?_ | refine blk_alloc ?_ _)); exact BK403.out) hb); have n2_ := Aside0.mk (below_step (by repeat (first | (with_reducible first | exact HB.out | apply below_alloc | apply pw_below_drewN | apply below_drew1 | refine below_set ?_ GE393.out | refine below_set ?_ GE403.out) | exact HB.out)) hb); have n3_ := Aside0.mk (hbox); have n4_ := Aside0.mk ((by rw [hg]; exact (below_size (by repeat (first | (with_reducible first | exact HB.out | apply below_alloc | apply pw_below_drewN | apply below_drew1 | refine below_set ?_ GE393.out | refine below_set ?_ GE403.out) | exact HB.out))) : w.heap.size ≤ gb407)); have n5_ := Aside0.mk ((by rw [hg]; exact (below_size (by repeat (first | (with_reducible first | exact HB.out | apply below_alloc | apply pw_below_drewN | apply below_drew1 | refine below_set ?_ GE393.out | refine below_set ?_ GE403.out) | exact HB.out))) : w.heap.size ≤ gb407)); have n6_ := Aside0.mk ((by rw [hg]; exact Nat.ne_of_lt (blk_lt (g := gb393) (o := .cells #[.string a2_0, .string a2_1] 45 (0, 0)) (by (with_reducible repeat (first | refine blk_drewN ?_ _ | refine blk_drew ?_ | refine blk_alloc ?_ _)); exact BK393.out)) : gb393 ≠ gb407)); have n7_ := Aside0.mk ((by rw [hg]; exact Nat.ne_of_gt (blk_lt (g := gb393) (o := .cells #[.string a2_0, .string a2_1] 45 (0, 0)) (by (with_reducible repeat (first | refine blk_drewN ?_ _ | refine blk_drew ?_ | refine blk_alloc ?_ _)); exact BK393.out)) : gb407 ≠ gb393)); have n8_ := Aside0.mk ((by rw [hg]; exact Nat.ne_of_lt (blk_lt (g := gb403) (o := .cells #[.string t400, .string t401] 45 (0, 0)) (by (with_reducible repeat (first | refine blk_drewN ?_ _ | refine blk_drew ?_ | refine blk_alloc ?_ _)); exact BK403.out)) : gb403 ≠ gb407)); have n9_ := Aside0.mk ((by rw [hg]; exact Nat.ne_of_gt (blk_lt (g := gb403) (o := .cells #[.string t400, .string t401] 45 (0, 0)) (by (with_reducible repeat (first | refine blk_drewN ?_ _ | refine blk_drew ?_ | refine blk_alloc ?_ _)); exact BK403.out)) : gb407 ≠ gb403)); clear BK393; clear BK403; clear HB; have BK393 := n0_; have BK403 := n1_; have HB := n2_; have BK407 := n3_; have GW407 := n4_; have GE407 := n5_; have NB393_407 := n6_; have NB407_393 := n7_; have NB403_407 := n8_; have NB407_403 := n9_; clear n0_ n1_ n2_ n3_ n4_ n5_ n6_ n7_ n8_ n9_; clear hb hbox hg; have hnb34 := NB407_393.out; have hnc34 := NB393_407.out; have hnb35 := NB407_403.out; have hnc35 := NB403_407.out; have hcz36_0 : w33.cell? ⟨gb407, 0, none⟩ = some (.string (⟨#[]⟩ : ByteArray)) := (blk_cell BK407.out 0).trans rfl; have hcz36_1 : w33.cell? ⟨gb407, 1, none⟩ = some (.string (⟨#[]⟩ : ByteArray)) := (blk_cell BK407.out 1).trans rfl; have hfz36_0 := blk_frozen BK407.out 0; have hfz36_1 := blk_frozen BK407.out 1))
                (try simp only [Act.put, List.setIfInBounds_toArray, List.set_cons_zero, List.set_cons_succ])
                go_cut [93] (fun v93 wc => ∃ (kq : Nat) (x93_26 : Bool), v93 = .bool x93_26 ∧ Aside0 (gluepotlaw16_NaiveBest.j4 kq l0 x93_26 a2_0 a2_1 t400 t401 t404 t405 = some r) ∧ Aside0 (kq ≤ k2) ∧ Aside0 (wc.heap[gb393]? = some (.cells #[.string a2_0, .string a2_1] 45 (0, 0))) ∧ Aside0 (wc.heap[gb403]? = some (.cells #[.string t400, .string t401] 45 (0, 0))) ∧ Aside0 (wc.heap[gb407]? = some (.cells #[.string t404, .string t405] 45 (0, 0))) ∧ Aside0 (Below w.heap.size w wc))
                case first =>
                  have H := HC27.out
                  clear HC27
                  by_cases c37 : (!(t400.toList == t404.toList) || (!(t401.toList == t405.toList))) = true
                  · rw [if_pos c37] at H
                    have c37b0 : (!(t400.toList == t404.toList) || (!(t401.toList == t405.toList))) = true := c37
                    clear c37
                    (first | rw [c37b0] | (simp only [i64_w, i32_w]; rw [c37b0]) | skip)
                    have H' := Aside0.mk H
                    clear H
                    have hnb38 := NB403_393.out
                    have hnc38 := NB393_403.out
                    have hnb39 := NB403_407.out
                    have hnc39 := NB407_403.out
                    have hcz40_0 : w33.cell? ⟨gb403, 0, none⟩ = some (.string t400) := (blk_cell BK403.out 0).trans rfl
                    have hcz40_1 : w33.cell? ⟨gb403, 1, none⟩ = some (.string t401) := (blk_cell BK403.out 1).trans rfl
                    have hfz40_0 := blk_frozen BK403.out 0
                    have hfz40_1 := blk_frozen BK403.out 1
                    have hnb41 := NB407_393.out
                    have hnc41 := NB393_407.out
                    have hcz42_0 : w33.cell? ⟨gb407, 0, none⟩ = some (.string (⟨#[]⟩ : ByteArray)) := (blk_cell BK407.out 0).trans rfl
                    have hcz42_1 : w33.cell? ⟨gb407, 1, none⟩ = some (.string (⟨#[]⟩ : ByteArray)) := (blk_cell BK407.out 1).trans rfl
                    have hfz42_0 := blk_frozen BK407.out 0
                    have hfz42_1 := blk_frozen BK407.out 1
                    go_wp2
                    go_meet
                    case rel => exact ⟨_, (true), (by first | rfl | (simp; done) | (simp [*]; done)), H', ⟨by have := HJ5.out; have := HK2.out; first | omega | exact Nat.le_refl _⟩, ⟨by (with_reducible repeat (first | refine blk_drewN ?_ _ | refine blk_drew ?_ | refine blk_alloc ?_ _)); refine blk_far ?_ NB393_407.out _; (with_reducible repeat (first | refine blk_drewN ?_ _ | refine blk_drew ?_ | refine blk_alloc ?_ _)); refine blk_far ?_ NB393_407.out _; (with_reducible repeat (first | refine blk_drewN ?_ _ | refine blk_drew ?_ | refine blk_alloc ?_ _)); exact BK393.out⟩, ⟨by (with_reducible repeat (first | refine blk_drewN ?_ _ | refine blk_drew ?_ | refine blk_alloc ?_ _)); refine blk_far ?_ NB403_407.out _; (with_reducible repeat (first | refine blk_drewN ?_ _ | refine blk_drew ?_ | refine blk_alloc ?_ _)); refine blk_far ?_ NB403_407.out _; (with_reducible repeat (first | refine blk_drewN ?_ _ | refine blk_drew ?_ | refine blk_alloc ?_ _)); exact BK403.out⟩, ⟨by (with_reducible repeat (first | refine blk_drewN ?_ _ | refine blk_drew ?_ | refine blk_alloc ?_ _)); refine blk_put (cs := #[.string t404, .string (⟨#[]⟩ : ByteArray)]) ?_ 1 _ rfl; (with_reducible repeat (first | refine blk_drewN ?_ _ | refine blk_drew ?_ | refine blk_alloc ?_ _)); refine blk_put (cs := #[.string (⟨#[]⟩ : ByteArray), .string (⟨#[]⟩ : ByteArray)]) ?_ 0 _ rfl; (with_reducible repeat (first | refine blk_drewN ?_ _ | refine blk_drew ?_ | refine blk_alloc ?_ _)); exact BK407.out⟩, ⟨by repeat (first | (with_reducible first | exact HB.out | apply below_alloc | apply pw_below_drewN | apply below_drew1 | refine below_set ?_ GE393.out | refine below_set ?_ GE403.out | refine below_set ?_ GE407.out) | exact HB.out)⟩⟩
                  · rw [if_neg c37] at H
                    have c37b0 : (!(t400.toList == t404.toList) || (!(t401.toList == t405.toList))) = false := by simpa using c37
                    clear c37
                    (first | rw [c37b0] | (simp only [i64_w, i32_w]; rw [c37b0]) | skip)
                    have H' := Aside0.mk H
                    clear H
                    have hnb43 := NB403_393.out
                    have hnc43 := NB393_403.out
                    have hnb44 := NB403_407.out
                    have hnc44 := NB407_403.out
                    have hcz45_0 : w33.cell? ⟨gb403, 0, none⟩ = some (.string t400) := (blk_cell BK403.out 0).trans rfl
                    have hcz45_1 : w33.cell? ⟨gb403, 1, none⟩ = some (.string t401) := (blk_cell BK403.out 1).trans rfl
                    have hfz45_0 := blk_frozen BK403.out 0
                    have hfz45_1 := blk_frozen BK403.out 1
                    have hnb46 := NB407_393.out
                    have hnc46 := NB393_407.out
                    have hcz47_0 : w33.cell? ⟨gb407, 0, none⟩ = some (.string (⟨#[]⟩ : ByteArray)) := (blk_cell BK407.out 0).trans rfl
                    have hcz47_1 : w33.cell? ⟨gb407, 1, none⟩ = some (.string (⟨#[]⟩ : ByteArray)) := (blk_cell BK407.out 1).trans rfl
                    have hfz47_0 := blk_frozen BK407.out 0
                    have hfz47_1 := blk_frozen BK407.out 1
                    go_wp2
                    go_meet
                    case rel => exact ⟨_, ((t402 != t406)), (by first | rfl | (simp; done) | (simp [*]; done)), H', ⟨by have := HJ5.out; have := HK2.out; first | omega | exact Nat.le_refl _⟩, ⟨by (with_reducible repeat (first | refine blk_drewN ?_ _ | refine blk_drew ?_ | refine blk_alloc ?_ _)); refine blk_far ?_ NB393_407.out _; (with_reducible repeat (first | refine blk_drewN ?_ _ | refine blk_drew ?_ | refine blk_alloc ?_ _)); refine blk_far ?_ NB393_407.out _; (with_reducible repeat (first | refine blk_drewN ?_ _ | refine blk_drew ?_ | refine blk_alloc ?_ _)); exact BK393.out⟩, ⟨by (with_reducible repeat (first | refine blk_drewN ?_ _ | refine blk_drew ?_ | refine blk_alloc ?_ _)); refine blk_far ?_ NB403_407.out _; (with_reducible repeat (first | refine blk_drewN ?_ _ | refine blk_drew ?_ | refine blk_alloc ?_ _)); refine blk_far ?_ NB403_407.out _; (with_reducible repeat (first | refine blk_drewN ?_ _ | refine blk_drew ?_ | refine blk_alloc ?_ _)); exact BK403.out⟩, ⟨by (with_reducible repeat (first | refine blk_drewN ?_ _ | refine blk_drew ?_ | refine blk_alloc ?_ _)); refine blk_put (cs := #[.string t404, .string (⟨#[]⟩ : ByteArray)]) ?_ 1 _ rfl; (with_reducible repeat (first | refine blk_drewN ?_ _ | refine blk_drew ?_ | refine blk_alloc ?_ _)); refine blk_put (cs := #[.string (⟨#[]⟩ : ByteArray), .string (⟨#[]⟩ : ByteArray)]) ?_ 0 _ rfl; (with_reducible repeat (first | refine blk_drewN ?_ _ | refine blk_drew ?_ | refine blk_alloc ?_ _)); exact BK407.out⟩, ⟨by repeat (first | (with_reducible first | exact HB.out | apply below_alloc | apply pw_below_drewN | apply below_drew1 | refine below_set ?_ GE393.out | refine below_set ?_ GE403.out | refine below_set ?_ GE407.out) | exact HB.out)⟩⟩
                case rest =>
                  clear HC27
                  try clear c1
                  try clear c2
                  try clear p2
                  try clear c3
                  try clear p3
                  try clear q3
                  try clear hx3
                  try clear c4
                  try clear c5
                  try clear c6
                  try clear p6
                  try clear c9
                  try clear c9b0
                  try clear c9b1
                  try clear c10
                  try clear c10b0
                  try clear c10b1
                  try clear c13
                  try clear c14
                  try clear c14b0
                  try clear c16
                  try clear c16b0
                  try clear c17
                  try clear c17b0
                  try clear c17b1
                  try clear c18
                  try clear c18b0
                  try clear c19
                  try clear c20
                  try clear c20b0
                  try clear c21
                  try clear c21b0
                  try clear c22
                  try clear c22b0
                  try clear c23
                  try clear c23b0
                  try clear c24
                  try clear c24b0
                  try clear c24b1
                  try clear c25
                  try clear c26
                  try clear c30
                  try clear c34
                  try clear c35
                  try clear c37
                  try clear c37b0
                  try clear c38
                  try clear c39
                  try clear p39
                  try clear q39
                  try clear hx39
                  try clear c41
                  try clear c43
                  try clear c44
                  try clear c46
                  try clear hcz11_0
                  try clear hcz11_1
                  try clear hcz12_0
                  try clear hcz12_1
                  try clear hcz31_0
                  try clear hcz31_1
                  try clear hcz36_0
                  try clear hcz36_1
                  try clear hcz40_0
                  try clear hcz40_1
                  try clear hcz42_0
                  try clear hcz42_1
                  try clear hcz45_0
                  try clear hcz45_1
                  try clear hcz47_0
                  try clear hcz47_1
                  try clear hfz11_0
                  try clear hfz11_1
                  try clear hfz12_0
                  try clear hfz12_1
                  try clear hfz31_0
                  try clear hfz31_1
                  try clear hfz36_0
                  try clear hfz36_1
                  try clear hfz40_0
                  try clear hfz40_1
                  try clear hfz42_0
                  try clear hfz42_1
                  try clear hfz45_0
                  try clear hfz45_1
                  try clear hfz47_0
                  try clear hfz47_1
                  try clear hx395_0
                  try clear hx396_0
                  try clear hx397_0
                  try clear hx398_0
                  try clear hx399_0
                  try clear p2
                  try clear p3
                  try clear p395
                  try clear p396
                  try clear p397
                  try clear p398
                  try clear p399
                  try clear q3
                  try clear q395
                  try clear q396
                  try clear q397
                  try clear q398
                  try clear q399
                  obtain ⟨kq, x93_26, rfl, HA, HJ26, BK393, BK403, BK407, HB⟩ := hcut
                  cases kq with
                  | zero => exact absurd HA.out (by simp [gluepotlaw16_NaiveBest.j4])
                  | succ kj26 =>
                    have H := HA.out
                    clear HA
                    simp only [gluepotlaw16_NaiveBest.j4] at H
                    by_cases c48 : x93_26 = true
                    · subst c48
                      have H1 : (some false) = some r := by rw [if_pos rfl] at H; exact H
                      clear H
                      have H := H1
                      clear H1
                      obtain rfl := Option.some.inj H
                      go_wp2
                      go_ret
                      exact ⟨by first | rfl | (simp [errW_none, errW_some] <;> rfl) | (simp [*, errW_none, errW_some] <;> rfl), by repeat (first | (with_reducible first | exact HB.out | apply below_alloc | apply pw_below_drewN | apply below_drew1 | refine below_set ?_ GE393.out | refine below_set ?_ GE403.out | refine below_set ?_ GE407.out) | exact HB.out)⟩
                    · replace c48 := Bool.eq_false_iff.mpr c48
                      subst c48
                      have H1 : (gluepotlaw16_NaiveBest.l2 kj26 l0 0 a2_0 a2_1 t400 t401 t404 t405) = some r := by rw [if_neg (show ¬ (false = true) by decide)] at H; exact H
                      clear H
                      have H := H1
                      clear H1
                      have H' := Aside0.mk H
                      clear H
                      go_wp2
                      go_loopg [13] kj26 (fun kq v13 w' => ∃ (x13_4 : Int), v13 = .int .i64 x13_4 ∧ Aside0 (gluepotlaw16_NaiveBest.l2 kq l0 x13_4 a2_0 a2_1 t400 t401 t404 t405 = some r) ∧ Aside0 (kq ≤ kj26) ∧ Aside0 (w'.heap[gb393]? = some (.cells #[.string a2_0, .string a2_1] 45 (0, 0))) ∧ Aside0 (w'.heap[gb403]? = some (.cells #[.string t400, .string t401] 45 (0, 0))) ∧ Aside0 (w'.heap[gb407]? = some (.cells #[.string t404, .string t405] 45 (0, 0))) ∧ Aside0 (Below w.heap.size w w'))
                      case atStart => exact ⟨(0), (by first | rfl | (simp; done) | (simp [*]; done)), H', ⟨Nat.le_refl _⟩, ⟨by (with_reducible repeat (first | refine blk_drewN ?_ _ | refine blk_drew ?_ | refine blk_alloc ?_ _)); exact BK393.out⟩, ⟨by (with_reducible repeat (first | refine blk_drewN ?_ _ | refine blk_drew ?_ | refine blk_alloc ?_ _)); exact BK403.out⟩, ⟨by (with_reducible repeat (first | refine blk_drewN ?_ _ | refine blk_drew ?_ | refine blk_alloc ?_ _)); exact BK407.out⟩, ⟨by repeat (first | (with_reducible first | exact HB.out | apply below_alloc | apply pw_below_drewN | apply below_drew1 | refine below_set ?_ GE393.out | refine below_set ?_ GE403.out | refine below_set ?_ GE407.out) | exact HB.out)⟩⟩
                      case round =>
                        clear H'
                        try clear c1
                        try clear c2
                        try clear p2
                        try clear c3
                        try clear p3
                        try clear q3
                        try clear hx3
                        try clear c4
                        try clear c5
                        try clear c6
                        try clear p6
                        try clear c9
                        try clear c9b0
                        try clear c9b1
                        try clear c10
                        try clear c10b0
                        try clear c10b1
                        try clear c13
                        try clear c14
                        try clear c14b0
                        try clear c16
                        try clear c16b0
                        try clear c17
                        try clear c17b0
                        try clear c17b1
                        try clear c18
                        try clear c18b0
                        try clear c19
                        try clear c20
                        try clear c20b0
                        try clear c21
                        try clear c21b0
                        try clear c22
                        try clear c22b0
                        try clear c23
                        try clear c23b0
                        try clear c24
                        try clear c24b0
                        try clear c24b1
                        try clear c25
                        try clear c26
                        try clear c30
                        try clear c34
                        try clear c35
                        try clear c37
                        try clear c37b0
                        try clear c38
                        try clear c39
                        try clear p39
                        try clear q39
                        try clear hx39
                        try clear c41
                        try clear c43
                        try clear c44
                        try clear c46
                        try clear c48
                        try clear hcz11_0
                        try clear hcz11_1
                        try clear hcz12_0
                        try clear hcz12_1
                        try clear hcz31_0
                        try clear hcz31_1
                        try clear hcz36_0
                        try clear hcz36_1
                        try clear hcz40_0
                        try clear hcz40_1
                        try clear hcz42_0
                        try clear hcz42_1
                        try clear hcz45_0
                        try clear hcz45_1
                        try clear hcz47_0
                        try clear hcz47_1
                        try clear hfz11_0
                        try clear hfz11_1
                        try clear hfz12_0
                        try clear hfz12_1
                        try clear hfz31_0
                        try clear hfz31_1
                        try clear hfz36_0
                        try clear hfz36_1
                        try clear hfz40_0
                        try clear hfz40_1
                        try clear hfz42_0
                        try clear hfz42_1
                        try clear hfz45_0
                        try clear hfz45_1
                        try clear hfz47_0
                        try clear hfz47_1
                        try clear hx395_0
                        try clear hx396_0
                        try clear hx397_0
                        try clear hx398_0
                        try clear hx399_0
                        try clear p2
                        try clear p3
                        try clear p39
                        try clear p395
                        try clear p396
                        try clear p397
                        try clear p398
                        try clear p399
                        try clear p6
                        try clear q3
                        try clear q39
                        try clear q395
                        try clear q396
                        try clear q397
                        try clear q398
                        try clear q399
                        obtain ⟨x13_4, rfl, HA, HK4, BK393, BK403, BK407, HB⟩ := hrel
                        cases gk with
                        | zero => exact absurd HA.out (by simp [gluepotlaw16_NaiveBest.l2])
                        | succ k4 =>
                          have H := HA.out
                          clear HA
                          simp only [gluepotlaw16_NaiveBest.l2] at H
                          by_cases c49 : x13_4 < (l0.length : Int)
                          · rw [if_pos c49] at H
                            have c49b0 : decide (x13_4 < (l0.length : Int)) = true := decide_eq_true c49
                            clear c49
                            by_cases c50 : 0 ≤ x13_4
                            · rw [if_pos c50] at H
                              have c50b0 : decide (0 ≤ x13_4) = true := decide_eq_true c50
                              clear c50
                              replace H := Option.bind_eq_some_iff.mp H
                              obtain ⟨t409, A510, H⟩ := H
                              replace H : ((gluepotref16_Join.f k4 (rd_L4 l0 x13_4) a2_0 a2_1).bind fun t413 => ((gluepotref01_Texts.f k4 t409 t413).bind fun t416 => (if t416 = true then ((naive_Join.f k4 (rd_L4 l0 x13_4) t400 t401).bind fun t418 => ((gluepotref16_Join.f k4 (rd_L4 l0 x13_4) t404 t405).bind fun t422 => ((gluepotref01_Texts.f k4 t418 t422).bind fun t425 => (if t425 = true then (gluepotlaw16_NaiveBest.l2 k4 l0 (wrap64 (x13_4 + 1)) a2_0 a2_1 t400 t401 t404 t405) else none)))) else none))) = some r := H
                              have A51 := Aside0.mk A510
                              clear A510
                              replace H := Option.bind_eq_some_iff.mp H
                              obtain ⟨t413, A520, H⟩ := H
                              replace H : ((gluepotref01_Texts.f k4 t409 t413).bind fun t416 => (if t416 = true then ((naive_Join.f k4 (rd_L4 l0 x13_4) t400 t401).bind fun t418 => ((gluepotref16_Join.f k4 (rd_L4 l0 x13_4) t404 t405).bind fun t422 => ((gluepotref01_Texts.f k4 t418 t422).bind fun t425 => (if t425 = true then (gluepotlaw16_NaiveBest.l2 k4 l0 (wrap64 (x13_4 + 1)) a2_0 a2_1 t400 t401 t404 t405) else none)))) else none)) = some r := H
                              have A52 := Aside0.mk A520
                              clear A520
                              replace H := Option.bind_eq_some_iff.mp H
                              obtain ⟨t416, A530, H⟩ := H
                              replace H : (if t416 = true then ((naive_Join.f k4 (rd_L4 l0 x13_4) t400 t401).bind fun t418 => ((gluepotref16_Join.f k4 (rd_L4 l0 x13_4) t404 t405).bind fun t422 => ((gluepotref01_Texts.f k4 t418 t422).bind fun t425 => (if t425 = true then (gluepotlaw16_NaiveBest.l2 k4 l0 (wrap64 (x13_4 + 1)) a2_0 a2_1 t400 t401 t404 t405) else none)))) else none) = some r := H
                              have A53 := Aside0.mk A530
                              clear A530
                              by_cases c54 : t416 = true
                              · subst c54
                                have H1 : ((naive_Join.f k4 (rd_L4 l0 x13_4) t400 t401).bind fun t418 => ((gluepotref16_Join.f k4 (rd_L4 l0 x13_4) t404 t405).bind fun t422 => ((gluepotref01_Texts.f k4 t418 t422).bind fun t425 => (if t425 = true then (gluepotlaw16_NaiveBest.l2 k4 l0 (wrap64 (x13_4 + 1)) a2_0 a2_1 t400 t401 t404 t405) else none)))) = some r := by rw [if_pos rfl] at H; exact H
                                clear H
                                have H := H1
                                clear H1
                                replace H := Option.bind_eq_some_iff.mp H
                                obtain ⟨t418, A550, H⟩ := H
                                replace H : ((gluepotref16_Join.f k4 (rd_L4 l0 x13_4) t404 t405).bind fun t422 => ((gluepotref01_Texts.f k4 t418 t422).bind fun t425 => (if t425 = true then (gluepotlaw16_NaiveBest.l2 k4 l0 (wrap64 (x13_4 + 1)) a2_0 a2_1 t400 t401 t404 t405) else none))) = some r := H
                                have A55 := Aside0.mk A550
                                clear A550
                                replace H := Option.bind_eq_some_iff.mp H
                                obtain ⟨t422, A560, H⟩ := H
                                replace H : ((gluepotref01_Texts.f k4 t418 t422).bind fun t425 => (if t425 = true then (gluepotlaw16_NaiveBest.l2 k4 l0 (wrap64 (x13_4 + 1)) a2_0 a2_1 t400 t401 t404 t405) else none)) = some r := H
                                have A56 := Aside0.mk A560
                                clear A560
                                replace H := Option.bind_eq_some_iff.mp H
                                obtain ⟨t425, A570, H⟩ := H
                                replace H : (if t425 = true then (gluepotlaw16_NaiveBest.l2 k4 l0 (wrap64 (x13_4 + 1)) a2_0 a2_1 t400 t401 t404 t405) else none) = some r := H
                                have A57 := Aside0.mk A570
                                clear A570
                                by_cases c58 : t425 = true
                                · subst c58
                                  have H1 : (gluepotlaw16_NaiveBest.l2 k4 l0 (wrap64 (x13_4 + 1)) a2_0 a2_1 t400 t401 t404 t405) = some r := by rw [if_pos rfl] at H; exact H
                                  clear H
                                  have H := H1
                                  clear H1
                                  have H' := Aside0.mk H
                                  clear H
                                  try go_wp2
                                  have n0_ := Aside0.mk (blk_drew BK393.out)
                                  have n1_ := Aside0.mk (blk_drew BK403.out)
                                  have n2_ := Aside0.mk (blk_drew BK407.out)
                                  have n3_ := Aside0.mk (below_drew1 HB.out)
                                  clear BK393
                                  clear BK403
                                  clear BK407
                                  clear HB
                                  have BK393 := n0_
                                  have BK403 := n1_
                                  have BK407 := n2_
                                  have HB := n3_
                                  clear n0_ n1_ n2_ n3_
                                  have p408 : 0 ≤ (x13_4 : Int) := of_decide_eq_true (by first | (with_reducible assumption) | assumption)
                                  have q408 : x13_4 < (l0.length : Int) := of_decide_eq_true (by first | (with_reducible assumption) | assumption)
                                  obtain ⟨ad408, A408_0, c408_0, e408, hx408_0, hl408_0, hi408_0⟩ := at_L4 HR0.out x13_4 p408 q408
                                  have hw408_0 := hx408_0
                                  cases e408
                                  replace hx408_0 := (HB.out.cell (World.block_lt_of_cell? w _ hx408_0)).trans hx408_0
                                  have HR408_0 := Aside0.mk hi408_0
                                  have HC408_0 := Aside0.mk hl408_0
                                  clear hi408_0 hl408_0
                                  replace p408 := eq_true p408
                                  replace q408 := eq_true q408
                                  have p412 : 0 ≤ (x13_4 : Int) := of_decide_eq_true (by first | (with_reducible assumption) | assumption)
                                  have q412 : x13_4 < (l0.length : Int) := of_decide_eq_true (by first | (with_reducible assumption) | assumption)
                                  obtain ⟨ad412, A412_0, c412_0, e412, hx412_0, hl412_0, hi412_0⟩ := at_L4 HR0.out x13_4 p412 q412
                                  have hw412_0 := hx412_0
                                  obtain rfl : ad408 = ad412 := (by injection e412)
                                  replace hx412_0 := (HB.out.cell (World.block_lt_of_cell? w _ hx412_0)).trans hx412_0
                                  have HR412_0 := Aside0.mk hi412_0
                                  have HC412_0 := Aside0.mk hl412_0
                                  clear hi412_0 hl412_0
                                  replace p412 := eq_true p412
                                  replace q412 := eq_true q412
                                  have ea_ := Option.some.inj (hx408_0.symm.trans hx412_0)
                                  injection ea_ with ea_ en_ ec_
                                  subst ea_
                                  subst ec_
                                  clear en_
                                  have p417 : 0 ≤ (x13_4 : Int) := of_decide_eq_true (by first | (with_reducible assumption) | assumption)
                                  have q417 : x13_4 < (l0.length : Int) := of_decide_eq_true (by first | (with_reducible assumption) | assumption)
                                  obtain ⟨ad417, A417_0, c417_0, e417, hx417_0, hl417_0, hi417_0⟩ := at_L4 HR0.out x13_4 p417 q417
                                  have hw417_0 := hx417_0
                                  obtain rfl : ad408 = ad417 := (by injection e417)
                                  replace hx417_0 := (HB.out.cell (World.block_lt_of_cell? w _ hx417_0)).trans hx417_0
                                  have HR417_0 := Aside0.mk hi417_0
                                  have HC417_0 := Aside0.mk hl417_0
                                  clear hi417_0 hl417_0
                                  replace p417 := eq_true p417
                                  replace q417 := eq_true q417
                                  have ea_ := Option.some.inj (hx408_0.symm.trans hx417_0)
                                  injection ea_ with ea_ en_ ec_
                                  subst ea_
                                  subst ec_
                                  clear en_
                                  have p421 : 0 ≤ (x13_4 : Int) := of_decide_eq_true (by first | (with_reducible assumption) | assumption)
                                  have q421 : x13_4 < (l0.length : Int) := of_decide_eq_true (by first | (with_reducible assumption) | assumption)
                                  obtain ⟨ad421, A421_0, c421_0, e421, hx421_0, hl421_0, hi421_0⟩ := at_L4 HR0.out x13_4 p421 q421
                                  have hw421_0 := hx421_0
                                  obtain rfl : ad408 = ad421 := (by injection e421)
                                  replace hx421_0 := (HB.out.cell (World.block_lt_of_cell? w _ hx421_0)).trans hx421_0
                                  have HR421_0 := Aside0.mk hi421_0
                                  have HC421_0 := Aside0.mk hl421_0
                                  clear hi421_0 hl421_0
                                  replace p421 := eq_true p421
                                  replace q421 := eq_true q421
                                  have ea_ := Option.some.inj (hx408_0.symm.trans hx421_0)
                                  injection ea_ with ea_ en_ ec_
                                  subst ea_
                                  subst ec_
                                  clear en_
                                  refine start_ (n := 30) (S := fun w' => w'.cell? ⟨gb393, 0, none⟩ = some (.string a2_0) ∧ w'.cell? ⟨gb393, 1, none⟩ = some (.string a2_1) ∧ w'.cell? ⟨gb403, 0, none⟩ = some (.string t400) ∧ w'.cell? ⟨gb403, 1, none⟩ = some (.string t401) ∧ w'.cell? ⟨gb407, 0, none⟩ = some (.string t404) ∧ w'.cell? ⟨gb407, 1, none⟩ = some (.string t405) ∧ w'.cell? (ad408.add (x13_4).toNat) = some (.slice A408_0 (rd_L4 l0 x13_4).length c408_0) ∧ w'.cell? (ad408.add (x13_4).toNat) = some (.slice A408_0 (rd_L4 l0 x13_4).length c408_0) ∧ w'.cell? (ad408.add (x13_4).toNat) = some (.slice A408_0 (rd_L4 l0 x13_4).length c408_0) ∧ w'.cell? (ad408.add (x13_4).toNat) = some (.slice A408_0 (rd_L4 l0 x13_4).length c408_0)) (ds := []) #[false, false, false, false, false, false, false, false, false, false, false, false, false, false, false, false, false, false, false, false, false, false, false, false, false, false, false, false, false, false] (by kernel_rfl) rfl rfl ⟨(blk_cell BK393.out 0).trans rfl, (blk_cell BK393.out 1).trans rfl, (blk_cell BK403.out 0).trans rfl, (blk_cell BK403.out 1).trans rfl, (blk_cell BK407.out 0).trans rfl, (blk_cell BK407.out 1).trans rfl, ((HB.out.cell (World.block_lt_of_cell? w _ hw408_0)).trans hw408_0), ((HB.out.cell (World.block_lt_of_cell? w _ hw412_0)).trans hw412_0), ((HB.out.cell (World.block_lt_of_cell? w _ hw417_0)).trans hw417_0), ((HB.out.cell (World.block_lt_of_cell? w _ hw421_0)).trans hw421_0)⟩ (fun hHeld => ?_); refine with_tabW gluepotlaw16_NaiveBest.tab22 gluepotlaw16_NaiveBest.bits22 (fun HT_ HW_ => ?_)
                                  generalize wr.drew = w59 at BK393 BK403 BK407 HB HR408_0 HR412_0 HR417_0 HR421_0 hx408_0 hx412_0 hx417_0 hx421_0 hHeld ⊢
                                  refine pure_ (i := 0) (N := some 100) (v := ?_) (a' := ?_) #[true, false, false, false, false, false, false, false, false, false, false, false, false, false, false, false, false, false, false, false, false, false, false, false, false, false, false, false, false, false] rfl rfl (any_of HT_.out (by kernel_rfl)) (fun _ _ _ h => h) (Or.inl ⟨by rfl, ?_⟩) ?_ ?_
                                  rotate_left
                                  · intro w'
                                    go_simp
                                    with_reducible rfl
                                  rotate_left
                                  · simp only [Act.put, List.setIfInBounds_toArray, List.set_cons_zero, List.set_cons_succ, i64_w, i32_w]
                                    rfl
                                  refine pure_ (i := 1) (N := some 101) (v := ?_) (a' := ?_) #[true, true, false, false, false, false, false, false, false, false, false, false, false, false, false, false, false, false, false, false, false, false, false, false, false, false, false, false, false, false] rfl rfl (any_of HT_.out (by kernel_rfl)) (fun _ _ _ h => h) (Or.inl ⟨by rfl, ?_⟩) ?_ ?_
                                  rotate_left
                                  · intro w'
                                    go_simp
                                    with_reducible rfl
                                  rotate_left
                                  · simp only [Act.put, List.setIfInBounds_toArray, List.set_cons_zero, List.set_cons_succ, i64_w, i32_w]
                                    rfl
                                  refine pure_ (i := 2) (N := some 102) (v := ?_) (a' := ?_) #[true, true, true, false, false, false, false, false, false, false, false, false, false, false, false, false, false, false, false, false, false, false, false, false, false, false, false, false, false, false] rfl rfl (any_of HT_.out (by kernel_rfl)) (fun _ _ _ h => h) (Or.inl ⟨by rfl, ?_⟩) ?_ ?_
                                  rotate_left
                                  · intro w'
                                    go_simp
                                    with_reducible rfl
                                  rotate_left
                                  · simp only [Act.put, List.setIfInBounds_toArray, List.set_cons_zero, List.set_cons_succ, i64_w, i32_w]
                                    rfl
                                  refine pure_ (i := 6) (N := some 106) (v := ?_) (a' := ?_) #[true, true, true, false, false, false, true, false, false, false, false, false, false, false, false, false, false, false, false, false, false, false, false, false, false, false, false, false, false, false] rfl rfl (any_of HT_.out (by kernel_rfl)) (fun _ _ _ h => h) (Or.inl ⟨by rfl, ?_⟩) ?_ ?_
                                  rotate_left
                                  · intro w'
                                    go_simp
                                    with_reducible rfl
                                  rotate_left
                                  · simp only [Act.put, List.setIfInBounds_toArray, List.set_cons_zero, List.set_cons_succ, i64_w, i32_w]
                                    rfl
                                  refine pure_ (i := 7) (N := some 107) (v := ?_) (a' := ?_) #[true, true, true, false, false, false, true, true, false, false, false, false, false, false, false, false, false, false, false, false, false, false, false, false, false, false, false, false, false, false] rfl rfl (any_of HT_.out (by kernel_rfl)) (fun _ _ _ h => h) (Or.inl ⟨by rfl, ?_⟩) ?_ ?_
                                  rotate_left
                                  · intro w'
                                    go_simp
                                    with_reducible rfl
                                  rotate_left
                                  · simp only [Act.put, List.setIfInBounds_toArray, List.set_cons_zero, List.set_cons_succ, i64_w, i32_w]
                                    rfl
                                  refine pure_ (i := 8) (N := some 108) (v := ?_) (a' := ?_) #[true, true, true, false, false, false, true, true, true, false, false, false, false, false, false, false, false, false, false, false, false, false, false, false, false, false, false, false, false, false] rfl rfl (any_of HT_.out (by kernel_rfl)) (fun _ _ _ h => h) (Or.inl ⟨by rfl, ?_⟩) ?_ ?_
                                  rotate_left
                                  · intro w'
                                    go_simp
                                    with_reducible rfl
                                  rotate_left
                                  · simp only [Act.put, List.setIfInBounds_toArray, List.set_cons_zero, List.set_cons_succ, i64_w, i32_w]
                                    rfl
                                  refine take_ (i := 3) (N := some 103) (v := ?_) (a' := ?_) #[true, true, true, true, false, false, true, true, true, false, false, false, false, false, false, false, false, false, false, false, false, false, false, false, false, false, false, false, false, false] rfl rfl (take_ofW HT_.out HW_.out (by kernel_rfl)) (fun _ _ _ h => h) (Or.inl ⟨by rfl, ?_⟩) hHeld ?_ ?_
                                  rotate_left
                                  · rintro w' ⟨s0, s1, s2, s3, s4, s5, s6, s7, s8, s9⟩
                                    go_simp
                                    with_reducible rfl
                                  rotate_left
                                  · simp only [Act.put, List.setIfInBounds_toArray, List.set_cons_zero, List.set_cons_succ, i64_w, i32_w]
                                    rfl
                                  refine take_ (i := 4) (N := some 104) (v := ?_) (a' := ?_) #[true, true, true, true, true, false, true, true, true, false, false, false, false, false, false, false, false, false, false, false, false, false, false, false, false, false, false, false, false, false] rfl rfl (take_ofW HT_.out HW_.out (by kernel_rfl)) (fun _ _ _ h => h) (Or.inl ⟨by rfl, ?_⟩) hHeld ?_ ?_
                                  rotate_left
                                  · rintro w' ⟨s0, s1, s2, s3, s4, s5, s6, s7, s8, s9⟩
                                    go_simp
                                    with_reducible rfl
                                  rotate_left
                                  · simp only [Act.put, List.setIfInBounds_toArray, List.set_cons_zero, List.set_cons_succ, i64_w, i32_w]
                                    rfl
                                  refine take_ (i := 9) (N := some 109) (v := ?_) (a' := ?_) #[true, true, true, true, true, false, true, true, true, true, false, false, false, false, false, false, false, false, false, false, false, false, false, false, false, false, false, false, false, false] rfl rfl (take_ofW HT_.out HW_.out (by kernel_rfl)) (fun _ _ _ h => h) (Or.inl ⟨by rfl, ?_⟩) hHeld ?_ ?_
                                  rotate_left
                                  · rintro w' ⟨s0, s1, s2, s3, s4, s5, s6, s7, s8, s9⟩
                                    go_simp
                                    with_reducible rfl
                                  rotate_left
                                  · simp only [Act.put, List.setIfInBounds_toArray, List.set_cons_zero, List.set_cons_succ, i64_w, i32_w]
                                    rfl
                                  refine take_ (i := 10) (N := some 110) (v := ?_) (a' := ?_) #[true, true, true, true, true, false, true, true, true, true, true, false, false, false, false, false, false, false, false, false, false, false, false, false, false, false, false, false, false, false] rfl rfl (take_ofW HT_.out HW_.out (by kernel_rfl)) (fun _ _ _ h => h) (Or.inl ⟨by rfl, ?_⟩) hHeld ?_ ?_
                                  rotate_left
                                  · rintro w' ⟨s0, s1, s2, s3, s4, s5, s6, s7, s8, s9⟩
                                    go_simp
                                    with_reducible rfl
                                  rotate_left
                                  · simp only [Act.put, List.setIfInBounds_toArray, List.set_cons_zero, List.set_cons_succ, i64_w, i32_w]
                                    rfl
                                  refine one_ (i := 5) (N := some 105) #[true, true, true, true, true, true, true, true, true, true, true, false, false, false, false, false, false, false, false, false, false, false, false, false, false, false, false, false, false, false] rfl rfl (one_of HT_.out (by kernel_rfl)) (by decide) (fun K hK => ?_)
                                  refine goes_ Try.func28 (by kernel_rfl) rfl #[.slice A408_0 (rd_L4 l0 x13_4).length c408_0, .agg #[.string a2_0, .string a2_1]] (by rfl) rfl rfl (by (try simp only [List.map_toArray, List.map_cons, List.map_nil]); first | done | rfl | (simp only [List.length_drop, List.length_take]; rfl)) ?_
                                  with_reducible refine (naive_Join.calls k4 _ _ (rd_L4 l0 x13_4) a2_0 a2_1 t409 _ ?side1 ?side2 A51.out).mono ?_
                                  (case side1 => repeat (first | exact (Kd.C_below HR408_0.out HB.out) | (with_reducible refine Kd.C_alloc ?_ _) | (with_reducible refine Kd.C_drewN ?_ _) | (with_reducible refine Kd.C_drew ?_)))
                                  (case side2 => exact HC408_0.out)
                                  rintro e w60 ⟨v410, rfl, ho0, hb⟩
                                  refine ⟨_, rfl, ?_⟩
                                  have n0_ := Aside0.mk (Kd.R_lower ho0 (below_size (by repeat (first | (with_reducible first | exact HB.out | apply below_alloc | apply pw_below_drewN | apply below_drew1 | refine below_set ?_ GE393.out | refine below_set ?_ GE403.out | refine below_set ?_ GE407.out) | exact HB.out))))
                                  have n1_ := Aside0.mk (blk_below (g := gb393) (o := .cells #[.string a2_0, .string a2_1] 45 (0, 0)) (by (with_reducible repeat (first | refine blk_drewN ?_ _ | refine blk_drew ?_ | refine blk_alloc ?_ _)); exact BK393.out) hb)
                                  have n2_ := Aside0.mk (blk_below (g := gb403) (o := .cells #[.string t400, .string t401] 45 (0, 0)) (by (with_reducible repeat (first | refine blk_drewN ?_ _ | refine blk_drew ?_ | refine blk_alloc ?_ _)); exact BK403.out) hb)
                                  have n3_ := Aside0.mk (blk_below (g := gb407) (o := .cells #[.string t404, .string t405] 45 (0, 0)) (by (with_reducible repeat (first | refine blk_drewN ?_ _ | refine blk_drew ?_ | refine blk_alloc ?_ _)); exact BK407.out) hb)
                                  have n4_ := Aside0.mk (below_step (by repeat (first | (with_reducible first | exact HB.out | apply below_alloc | apply pw_below_drewN | apply below_drew1 | refine below_set ?_ GE393.out | refine below_set ?_ GE403.out | refine below_set ?_ GE407.out) | exact HB.out)) hb)
                                  clear BK393
                                  clear BK403
                                  clear BK407
                                  clear HB
                                  have HO411 := n0_
                                  have BK393 := n1_
                                  have BK403 := n2_
                                  have BK407 := n3_
                                  have HB := n4_
                                  clear n0_ n1_ n2_ n3_ n4_
                                  (try clear hb)
                                  (try clear hb2)
                                  (try clear hk)
                                  (try clear hi)
                                  (try clear ho0)
                                  refine hK.out _ _ ⟨(blk_cell BK393.out 0).trans rfl, (blk_cell BK393.out 1).trans rfl, (blk_cell BK403.out 0).trans rfl, (blk_cell BK403.out 1).trans rfl, (blk_cell BK407.out 0).trans rfl, (blk_cell BK407.out 1).trans rfl, ((HB.out.cell (World.block_lt_of_cell? w _ hw408_0)).trans hw408_0), ((HB.out.cell (World.block_lt_of_cell? w _ hw412_0)).trans hw412_0), ((HB.out.cell (World.block_lt_of_cell? w _ hw417_0)).trans hw417_0), ((HB.out.cell (World.block_lt_of_cell? w _ hw421_0)).trans hw421_0)⟩ (fun hHeld => ?_)
                                  clear hK K
                                  refine norm_ (a' := ?_) ?_ ?_
                                  rotate_left
                                  · show Act.put _ (some 105) _ = _
                                    simp only [Act.put, List.setIfInBounds_toArray, List.set_cons_zero, List.set_cons_succ, i64_w, i32_w]
                                    rfl
                                  refine one_ (i := 11) (N := some 111) #[true, true, true, true, true, true, true, true, true, true, true, true, false, false, false, false, false, false, false, false, false, false, false, false, false, false, false, false, false, false] rfl rfl (one_of HT_.out (by kernel_rfl)) (by decide) (fun K hK => ?_)
                                  refine goes_ Try.func29 (by kernel_rfl) rfl #[.slice A408_0 (rd_L4 l0 x13_4).length c408_0, .agg #[.string a2_0, .string a2_1]] (by rfl) rfl rfl (by (try simp only [List.map_toArray, List.map_cons, List.map_nil]); first | done | rfl | (simp only [List.length_drop, List.length_take]; rfl)) ?_
                                  with_reducible refine (gluepotref16_Join.calls k4 _ _ (rd_L4 l0 x13_4) a2_0 a2_1 t413 _ ?side1 ?side2 A52.out).mono ?_
                                  (case side1 => repeat (first | exact (Kd.C_below HR412_0.out HB.out) | (with_reducible refine Kd.C_alloc ?_ _) | (with_reducible refine Kd.C_drewN ?_ _) | (with_reducible refine Kd.C_drew ?_)))
                                  (case side2 => exact HC412_0.out)
                                  rintro e w61 ⟨v414, rfl, ho0, hb⟩
                                  refine ⟨_, rfl, ?_⟩
                                  have n0_ := Aside0.mk (Kd.R_elder' (by (with_reducible repeat (first | apply Kd.R_alloc | apply Kd.R_drewN | apply Kd.R_drew)); exact HO411.out) (Kd.R_base ho0) hb)
                                  have n1_ := Aside0.mk (Kd.R_lower (Kd.R_new' ho0 (Kd.R_lt (by (with_reducible repeat (first | apply Kd.R_alloc | apply Kd.R_drewN | apply Kd.R_drew)); exact HO411.out))) (below_size (by repeat (first | (with_reducible first | exact HB.out | apply below_alloc | apply pw_below_drewN | apply below_drew1 | refine below_set ?_ GE393.out | refine below_set ?_ GE403.out | refine below_set ?_ GE407.out) | exact HB.out))))
                                  have n2_ := Aside0.mk (blk_below (g := gb393) (o := .cells #[.string a2_0, .string a2_1] 45 (0, 0)) (by (with_reducible repeat (first | refine blk_drewN ?_ _ | refine blk_drew ?_ | refine blk_alloc ?_ _)); exact BK393.out) hb)
                                  have n3_ := Aside0.mk (blk_below (g := gb403) (o := .cells #[.string t400, .string t401] 45 (0, 0)) (by (with_reducible repeat (first | refine blk_drewN ?_ _ | refine blk_drew ?_ | refine blk_alloc ?_ _)); exact BK403.out) hb)
                                  have n4_ := Aside0.mk (blk_below (g := gb407) (o := .cells #[.string t404, .string t405] 45 (0, 0)) (by (with_reducible repeat (first | refine blk_drewN ?_ _ | refine blk_drew ?_ | refine blk_alloc ?_ _)); exact BK407.out) hb)
                                  have n5_ := Aside0.mk (below_step (by repeat (first | (with_reducible first | exact HB.out | apply below_alloc | apply pw_below_drewN | apply below_drew1 | refine below_set ?_ GE393.out | refine below_set ?_ GE403.out | refine below_set ?_ GE407.out) | exact HB.out)) hb)
                                  clear HO411
                                  clear BK393
                                  clear BK403
                                  clear BK407
                                  clear HB
                                  have HO411 := n0_
                                  have HO415 := n1_
                                  have BK393 := n2_
                                  have BK403 := n3_
                                  have BK407 := n4_
                                  have HB := n5_
                                  clear n0_ n1_ n2_ n3_ n4_ n5_
                                  (try clear hb)
                                  (try clear hb2)
                                  (try clear hk)
                                  (try clear hi)
                                  (try clear ho0)
                                  obtain ⟨Ao62, co62, eo62⟩ := Kd.R_slice HO411.out
                                  (first | subst eo62 | (injection eo62 with f1_ f2_ f3_; have f4_ := f1_.symm; have f5_ := f3_.symm; clear f1_ f2_ f3_; subst f4_; subst f5_))
                                  obtain ⟨Ao63, co63, eo63⟩ := Kd.R_slice HO415.out
                                  (first | subst eo63 | (injection eo63 with f1_ f2_ f3_; have f4_ := f1_.symm; have f5_ := f3_.symm; clear f1_ f2_ f3_; subst f4_; subst f5_))
                                  refine hK.out _ _ ⟨(blk_cell BK393.out 0).trans rfl, (blk_cell BK393.out 1).trans rfl, (blk_cell BK403.out 0).trans rfl, (blk_cell BK403.out 1).trans rfl, (blk_cell BK407.out 0).trans rfl, (blk_cell BK407.out 1).trans rfl, ((HB.out.cell (World.block_lt_of_cell? w _ hw408_0)).trans hw408_0), ((HB.out.cell (World.block_lt_of_cell? w _ hw412_0)).trans hw412_0), ((HB.out.cell (World.block_lt_of_cell? w _ hw417_0)).trans hw417_0), ((HB.out.cell (World.block_lt_of_cell? w _ hw421_0)).trans hw421_0)⟩ (fun hHeld => ?_)
                                  clear hK K
                                  refine norm_ (a' := ?_) ?_ ?_
                                  rotate_left
                                  · show Act.put _ (some 111) _ = _
                                    simp only [Act.put, List.setIfInBounds_toArray, List.set_cons_zero, List.set_cons_succ, i64_w, i32_w]
                                    rfl
                                  refine one_ (i := 12) (N := some 112) #[true, true, true, true, true, true, true, true, true, true, true, true, true, false, false, false, false, false, false, false, false, false, false, false, false, false, false, false, false, false] rfl rfl (one_of HT_.out (by kernel_rfl)) (by decide) (fun K hK => ?_)
                                  refine goes_ Try.func27 (by kernel_rfl) rfl #[.slice Ao62 t409.length co62, .slice Ao63 t413.length co63] (by rfl) rfl rfl (by (try simp only [List.map_toArray, List.map_cons, List.map_nil]); first | done | rfl | (simp only [List.length_drop, List.length_take]; rfl)) ?_
                                  with_reducible refine (gluepotref01_Texts.calls k4 _ _ t409 _ _ t413 true _ ?side1 ?side2 ?side3 ?side4 A53.out).mono ?_
                                  (case side1 => repeat (first | exact (Kd.R_reads' HO411.out).2.2 | (with_reducible refine Kd.C_alloc ?_ _) | (with_reducible refine Kd.C_drewN ?_ _) | (with_reducible refine Kd.C_drew ?_)))
                                  (case side2 => exact (Kd.R_reads' HO411.out).2.1)
                                  (case side3 => repeat (first | exact (Kd.R_reads' HO415.out).2.2 | (with_reducible refine Kd.C_alloc ?_ _) | (with_reducible refine Kd.C_drewN ?_ _) | (with_reducible refine Kd.C_drew ?_)))
                                  (case side4 => exact (Kd.R_reads' HO415.out).2.1)
                                  rintro e w' ⟨rfl, ⟨nd, rfl⟩⟩
                                  refine ⟨_, rfl, ?_⟩
                                  refine hK.out _ _ ⟨(blk_cell BK393.out 0).trans rfl, (blk_cell BK393.out 1).trans rfl, (blk_cell BK403.out 0).trans rfl, (blk_cell BK403.out 1).trans rfl, (blk_cell BK407.out 0).trans rfl, (blk_cell BK407.out 1).trans rfl, ((HB.out.cell (World.block_lt_of_cell? w _ hw408_0)).trans hw408_0), ((HB.out.cell (World.block_lt_of_cell? w _ hw412_0)).trans hw412_0), ((HB.out.cell (World.block_lt_of_cell? w _ hw417_0)).trans hw417_0), ((HB.out.cell (World.block_lt_of_cell? w _ hw421_0)).trans hw421_0)⟩ (fun hHeld => ?_)
                                  clear hK K
                                  refine norm_ (a' := ?_) ?_ ?_
                                  rotate_left
                                  · show Act.put _ (some 112) _ = _
                                    simp only [Act.put, List.setIfInBounds_toArray, List.set_cons_zero, List.set_cons_succ, i64_w, i32_w]
                                    rfl
                                  refine pure_ (i := 13) (N := some 113) (v := ?_) (a' := ?_) #[true, true, true, true, true, true, true, true, true, true, true, true, true, true, false, false, false, false, false, false, false, false, false, false, false, false, false, false, false, false] rfl rfl (any_of HT_.out (by kernel_rfl)) (fun _ _ _ h => h) (Or.inl ⟨by rfl, ?_⟩) ?_ ?_
                                  rotate_left
                                  · intro w'
                                    go_simp
                                    with_reducible rfl
                                  rotate_left
                                  · simp only [Act.put, List.setIfInBounds_toArray, List.set_cons_zero, List.set_cons_succ, i64_w, i32_w]
                                    rfl
                                  refine pure_ (i := 14) (N := some 114) (v := ?_) (a' := ?_) #[true, true, true, true, true, true, true, true, true, true, true, true, true, true, true, false, false, false, false, false, false, false, false, false, false, false, false, false, false, false] rfl rfl (any_of HT_.out (by kernel_rfl)) (fun _ _ _ h => h) (Or.inl ⟨by rfl, ?_⟩) ?_ ?_
                                  rotate_left
                                  · intro w'
                                    go_simp
                                    with_reducible rfl
                                  rotate_left
                                  · simp only [Act.put, List.setIfInBounds_toArray, List.set_cons_zero, List.set_cons_succ, i64_w, i32_w]
                                    rfl
                                  refine pure_ (i := 15) (N := some 115) (v := ?_) (a' := ?_) #[true, true, true, true, true, true, true, true, true, true, true, true, true, true, true, true, false, false, false, false, false, false, false, false, false, false, false, false, false, false] rfl rfl (any_of HT_.out (by kernel_rfl)) (fun _ _ _ h => h) (Or.inl ⟨by rfl, ?_⟩) ?_ ?_
                                  rotate_left
                                  · intro w'
                                    go_simp
                                    with_reducible rfl
                                  rotate_left
                                  · simp only [Act.put, List.setIfInBounds_toArray, List.set_cons_zero, List.set_cons_succ, i64_w, i32_w]
                                    rfl
                                  refine pure_ (i := 16) (N := some 116) (v := ?_) (a' := ?_) #[true, true, true, true, true, true, true, true, true, true, true, true, true, true, true, true, true, false, false, false, false, false, false, false, false, false, false, false, false, false] rfl rfl (any_of HT_.out (by kernel_rfl)) (fun _ _ _ h => h) (Or.inl ⟨by rfl, ?_⟩) ?_ ?_
                                  rotate_left
                                  · intro w'
                                    go_simp
                                    with_reducible rfl
                                  rotate_left
                                  · simp only [Act.put, List.setIfInBounds_toArray, List.set_cons_zero, List.set_cons_succ, i64_w, i32_w]
                                    rfl
                                  refine pure_ (i := 17) (N := some 117) (v := ?_) (a' := ?_) #[true, true, true, true, true, true, true, true, true, true, true, true, true, true, true, true, true, true, false, false, false, false, false, false, false, false, false, false, false, false] rfl rfl (any_of HT_.out (by kernel_rfl)) (fun _ _ _ h => h) (Or.inl ⟨by rfl, ?_⟩) ?_ ?_
                                  rotate_left
                                  · intro w'
                                    go_simp
                                    with_reducible rfl
                                  rotate_left
                                  · simp only [Act.put, List.setIfInBounds_toArray, List.set_cons_zero, List.set_cons_succ, i64_w, i32_w]
                                    rfl
                                  refine pure_ (i := 21) (N := some 121) (v := ?_) (a' := ?_) #[true, true, true, true, true, true, true, true, true, true, true, true, true, true, true, true, true, true, false, false, false, true, false, false, false, false, false, false, false, false] rfl rfl (any_of HT_.out (by kernel_rfl)) (fun _ _ _ h => h) (Or.inl ⟨by rfl, ?_⟩) ?_ ?_
                                  rotate_left
                                  · intro w'
                                    go_simp
                                    with_reducible rfl
                                  rotate_left
                                  · simp only [Act.put, List.setIfInBounds_toArray, List.set_cons_zero, List.set_cons_succ, i64_w, i32_w]
                                    rfl
                                  refine pure_ (i := 22) (N := some 122) (v := ?_) (a' := ?_) #[true, true, true, true, true, true, true, true, true, true, true, true, true, true, true, true, true, true, false, false, false, true, true, false, false, false, false, false, false, false] rfl rfl (any_of HT_.out (by kernel_rfl)) (fun _ _ _ h => h) (Or.inl ⟨by rfl, ?_⟩) ?_ ?_
                                  rotate_left
                                  · intro w'
                                    go_simp
                                    with_reducible rfl
                                  rotate_left
                                  · simp only [Act.put, List.setIfInBounds_toArray, List.set_cons_zero, List.set_cons_succ, i64_w, i32_w]
                                    rfl
                                  refine pure_ (i := 23) (N := some 123) (v := ?_) (a' := ?_) #[true, true, true, true, true, true, true, true, true, true, true, true, true, true, true, true, true, true, false, false, false, true, true, true, false, false, false, false, false, false] rfl rfl (any_of HT_.out (by kernel_rfl)) (fun _ _ _ h => h) (Or.inl ⟨by rfl, ?_⟩) ?_ ?_
                                  rotate_left
                                  · intro w'
                                    go_simp
                                    with_reducible rfl
                                  rotate_left
                                  · simp only [Act.put, List.setIfInBounds_toArray, List.set_cons_zero, List.set_cons_succ, i64_w, i32_w]
                                    rfl
                                  refine take_ (i := 18) (N := some 118) (v := ?_) (a' := ?_) #[true, true, true, true, true, true, true, true, true, true, true, true, true, true, true, true, true, true, true, false, false, true, true, true, false, false, false, false, false, false] rfl rfl (take_ofW HT_.out HW_.out (by kernel_rfl)) (fun _ _ _ h => h) (Or.inl ⟨by rfl, ?_⟩) hHeld ?_ ?_
                                  rotate_left
                                  · rintro w' ⟨s0, s1, s2, s3, s4, s5, s6, s7, s8, s9⟩
                                    go_simp
                                    with_reducible rfl
                                  rotate_left
                                  · simp only [Act.put, List.setIfInBounds_toArray, List.set_cons_zero, List.set_cons_succ, i64_w, i32_w]
                                    rfl
                                  refine take_ (i := 19) (N := some 119) (v := ?_) (a' := ?_) #[true, true, true, true, true, true, true, true, true, true, true, true, true, true, true, true, true, true, true, true, false, true, true, true, false, false, false, false, false, false] rfl rfl (take_ofW HT_.out HW_.out (by kernel_rfl)) (fun _ _ _ h => h) (Or.inl ⟨by rfl, ?_⟩) hHeld ?_ ?_
                                  rotate_left
                                  · rintro w' ⟨s0, s1, s2, s3, s4, s5, s6, s7, s8, s9⟩
                                    go_simp
                                    with_reducible rfl
                                  rotate_left
                                  · simp only [Act.put, List.setIfInBounds_toArray, List.set_cons_zero, List.set_cons_succ, i64_w, i32_w]
                                    rfl
                                  refine take_ (i := 24) (N := some 124) (v := ?_) (a' := ?_) #[true, true, true, true, true, true, true, true, true, true, true, true, true, true, true, true, true, true, true, true, false, true, true, true, true, false, false, false, false, false] rfl rfl (take_ofW HT_.out HW_.out (by kernel_rfl)) (fun _ _ _ h => h) (Or.inl ⟨by rfl, ?_⟩) hHeld ?_ ?_
                                  rotate_left
                                  · rintro w' ⟨s0, s1, s2, s3, s4, s5, s6, s7, s8, s9⟩
                                    go_simp
                                    with_reducible rfl
                                  rotate_left
                                  · simp only [Act.put, List.setIfInBounds_toArray, List.set_cons_zero, List.set_cons_succ, i64_w, i32_w]
                                    rfl
                                  refine take_ (i := 25) (N := some 125) (v := ?_) (a' := ?_) #[true, true, true, true, true, true, true, true, true, true, true, true, true, true, true, true, true, true, true, true, false, true, true, true, true, true, false, false, false, false] rfl rfl (take_ofW HT_.out HW_.out (by kernel_rfl)) (fun _ _ _ h => h) (Or.inl ⟨by rfl, ?_⟩) hHeld ?_ ?_
                                  rotate_left
                                  · rintro w' ⟨s0, s1, s2, s3, s4, s5, s6, s7, s8, s9⟩
                                    go_simp
                                    with_reducible rfl
                                  rotate_left
                                  · simp only [Act.put, List.setIfInBounds_toArray, List.set_cons_zero, List.set_cons_succ, i64_w, i32_w]
                                    rfl
                                  refine one_ (i := 20) (N := some 120) #[true, true, true, true, true, true, true, true, true, true, true, true, true, true, true, true, true, true, true, true, true, true, true, true, true, true, false, false, false, false] rfl rfl (one_of HT_.out (by kernel_rfl)) (by decide) (fun K hK => ?_)
                                  refine goes_ Try.func28 (by kernel_rfl) rfl #[.slice A408_0 (rd_L4 l0 x13_4).length c408_0, .agg #[.string t400, .string t401]] (by rfl) rfl rfl (by (try simp only [List.map_toArray, List.map_cons, List.map_nil]); first | done | rfl | (simp only [List.length_drop, List.length_take]; rfl)) ?_
                                  with_reducible refine (naive_Join.calls k4 _ _ (rd_L4 l0 x13_4) t400 t401 t418 _ ?side1 ?side2 A55.out).mono ?_
                                  (case side1 => repeat (first | exact (Kd.C_below HR417_0.out (by repeat (first | (with_reducible first | exact HB.out | apply below_alloc | apply pw_below_drewN | apply below_drew1 | refine below_set ?_ GE393.out | refine below_set ?_ GE403.out | refine below_set ?_ GE407.out) | exact HB.out))) | (with_reducible refine Kd.C_alloc ?_ _) | (with_reducible refine Kd.C_drewN ?_ _) | (with_reducible refine Kd.C_drew ?_)))
                                  (case side2 => exact HC417_0.out)
                                  rintro e w64 ⟨v419, rfl, ho0, hb⟩
                                  refine ⟨_, rfl, ?_⟩
                                  have n0_ := Aside0.mk (Kd.R_elder' (by (with_reducible repeat (first | apply Kd.R_alloc | apply Kd.R_drewN | apply Kd.R_drew)); exact HO411.out) (Kd.R_base ho0) hb)
                                  have n1_ := Aside0.mk (Kd.R_elder' (by (with_reducible repeat (first | apply Kd.R_alloc | apply Kd.R_drewN | apply Kd.R_drew)); exact HO415.out) (Kd.R_base ho0) hb)
                                  have n2_ := Aside0.mk (Kd.R_lower (Kd.R_new' (Kd.R_new' ho0 (Kd.R_lt (by (with_reducible repeat (first | apply Kd.R_alloc | apply Kd.R_drewN | apply Kd.R_drew)); exact HO411.out))) (Kd.R_lt (by (with_reducible repeat (first | apply Kd.R_alloc | apply Kd.R_drewN | apply Kd.R_drew)); exact HO415.out))) (below_size (by repeat (first | (with_reducible first | exact HB.out | apply below_alloc | apply pw_below_drewN | apply below_drew1 | refine below_set ?_ GE393.out | refine below_set ?_ GE403.out | refine below_set ?_ GE407.out) | exact HB.out))))
                                  have n3_ := Aside0.mk (blk_below (g := gb393) (o := .cells #[.string a2_0, .string a2_1] 45 (0, 0)) (by (with_reducible repeat (first | refine blk_drewN ?_ _ | refine blk_drew ?_ | refine blk_alloc ?_ _)); exact BK393.out) hb)
                                  have n4_ := Aside0.mk (blk_below (g := gb403) (o := .cells #[.string t400, .string t401] 45 (0, 0)) (by (with_reducible repeat (first | refine blk_drewN ?_ _ | refine blk_drew ?_ | refine blk_alloc ?_ _)); exact BK403.out) hb)
                                  have n5_ := Aside0.mk (blk_below (g := gb407) (o := .cells #[.string t404, .string t405] 45 (0, 0)) (by (with_reducible repeat (first | refine blk_drewN ?_ _ | refine blk_drew ?_ | refine blk_alloc ?_ _)); exact BK407.out) hb)
                                  have n6_ := Aside0.mk (below_step (by repeat (first | (with_reducible first | exact HB.out | apply below_alloc | apply pw_below_drewN | apply below_drew1 | refine below_set ?_ GE393.out | refine below_set ?_ GE403.out | refine below_set ?_ GE407.out) | exact HB.out)) hb)
                                  clear HO411
                                  clear HO415
                                  clear BK393
                                  clear BK403
                                  clear BK407
                                  clear HB
                                  have HO411 := n0_
                                  have HO415 := n1_
                                  have HO420 := n2_
                                  have BK393 := n3_
                                  have BK403 := n4_
                                  have BK407 := n5_
                                  have HB := n6_
                                  clear n0_ n1_ n2_ n3_ n4_ n5_ n6_
                                  (try clear hb)
                                  (try clear hb2)
                                  (try clear hk)
                                  (try clear hi)
                                  (try clear ho0)
                                  refine hK.out _ _ ⟨(blk_cell BK393.out 0).trans rfl, (blk_cell BK393.out 1).trans rfl, (blk_cell BK403.out 0).trans rfl, (blk_cell BK403.out 1).trans rfl, (blk_cell BK407.out 0).trans rfl, (blk_cell BK407.out 1).trans rfl, ((HB.out.cell (World.block_lt_of_cell? w _ hw408_0)).trans hw408_0), ((HB.out.cell (World.block_lt_of_cell? w _ hw412_0)).trans hw412_0), ((HB.out.cell (World.block_lt_of_cell? w _ hw417_0)).trans hw417_0), ((HB.out.cell (World.block_lt_of_cell? w _ hw421_0)).trans hw421_0)⟩ (fun hHeld => ?_)
                                  clear hK K
                                  refine norm_ (a' := ?_) ?_ ?_
                                  rotate_left
                                  · show Act.put _ (some 120) _ = _
                                    simp only [Act.put, List.setIfInBounds_toArray, List.set_cons_zero, List.set_cons_succ, i64_w, i32_w]
                                    rfl
                                  refine one_ (i := 26) (N := some 126) #[true, true, true, true, true, true, true, true, true, true, true, true, true, true, true, true, true, true, true, true, true, true, true, true, true, true, true, false, false, false] rfl rfl (one_of HT_.out (by kernel_rfl)) (by decide) (fun K hK => ?_)
                                  refine goes_ Try.func29 (by kernel_rfl) rfl #[.slice A408_0 (rd_L4 l0 x13_4).length c408_0, .agg #[.string t404, .string t405]] (by rfl) rfl rfl (by (try simp only [List.map_toArray, List.map_cons, List.map_nil]); first | done | rfl | (simp only [List.length_drop, List.length_take]; rfl)) ?_
                                  with_reducible refine (gluepotref16_Join.calls k4 _ _ (rd_L4 l0 x13_4) t404 t405 t422 _ ?side1 ?side2 A56.out).mono ?_
                                  (case side1 => repeat (first | exact (Kd.C_below HR421_0.out HB.out) | (with_reducible refine Kd.C_alloc ?_ _) | (with_reducible refine Kd.C_drewN ?_ _) | (with_reducible refine Kd.C_drew ?_)))
                                  (case side2 => exact HC421_0.out)
                                  rintro e w65 ⟨v423, rfl, ho0, hb⟩
                                  refine ⟨_, rfl, ?_⟩
                                  have n0_ := Aside0.mk (Kd.R_elder' (by (with_reducible repeat (first | apply Kd.R_alloc | apply Kd.R_drewN | apply Kd.R_drew)); exact HO411.out) (Kd.R_base ho0) hb)
                                  have n1_ := Aside0.mk (Kd.R_elder' (by (with_reducible repeat (first | apply Kd.R_alloc | apply Kd.R_drewN | apply Kd.R_drew)); exact HO415.out) (Kd.R_base ho0) hb)
                                  have n2_ := Aside0.mk (Kd.R_elder' (by (with_reducible repeat (first | apply Kd.R_alloc | apply Kd.R_drewN | apply Kd.R_drew)); exact HO420.out) (Kd.R_base ho0) hb)
                                  have n3_ := Aside0.mk (Kd.R_lower (Kd.R_new' (Kd.R_new' (Kd.R_new' ho0 (Kd.R_lt (by (with_reducible repeat (first | apply Kd.R_alloc | apply Kd.R_drewN | apply Kd.R_drew)); exact HO411.out))) (Kd.R_lt (by (with_reducible repeat (first | apply Kd.R_alloc | apply Kd.R_drewN | apply Kd.R_drew)); exact HO415.out))) (Kd.R_lt (by (with_reducible repeat (first | apply Kd.R_alloc | apply Kd.R_drewN | apply Kd.R_drew)); exact HO420.out))) (below_size (by repeat (first | (with_reducible first | exact HB.out | apply below_alloc | apply pw_below_drewN | apply below_drew1 | refine below_set ?_ GE393.out | refine below_set ?_ GE403.out | refine below_set ?_ GE407.out) | exact HB.out))))
                                  have n4_ := Aside0.mk (blk_below (g := gb393) (o := .cells #[.string a2_0, .string a2_1] 45 (0, 0)) (by (with_reducible repeat (first | refine blk_drewN ?_ _ | refine blk_drew ?_ | refine blk_alloc ?_ _)); exact BK393.out) hb)
                                  have n5_ := Aside0.mk (blk_below (g := gb403) (o := .cells #[.string t400, .string t401] 45 (0, 0)) (by (with_reducible repeat (first | refine blk_drewN ?_ _ | refine blk_drew ?_ | refine blk_alloc ?_ _)); exact BK403.out) hb)
                                  have n6_ := Aside0.mk (blk_below (g := gb407) (o := .cells #[.string t404, .string t405] 45 (0, 0)) (by (with_reducible repeat (first | refine blk_drewN ?_ _ | refine blk_drew ?_ | refine blk_alloc ?_ _)); exact BK407.out) hb)
                                  have n7_ := Aside0.mk (below_step (by repeat (first | (with_reducible first | exact HB.out | apply below_alloc | apply pw_below_drewN | apply below_drew1 | refine below_set ?_ GE393.out | refine below_set ?_ GE403.out | refine below_set ?_ GE407.out) | exact HB.out)) hb)
                                  clear HO411
                                  clear HO415
                                  clear HO420
                                  clear BK393
                                  clear BK403
                                  clear BK407
                                  clear HB
                                  have HO411 := n0_
                                  have HO415 := n1_
                                  have HO420 := n2_
                                  have HO424 := n3_
                                  have BK393 := n4_
                                  have BK403 := n5_
                                  have BK407 := n6_
                                  have HB := n7_
                                  clear n0_ n1_ n2_ n3_ n4_ n5_ n6_ n7_
                                  (try clear hb)
                                  (try clear hb2)
                                  (try clear hk)
                                  (try clear hi)
                                  (try clear ho0)
                                  obtain ⟨Ao66, co66, eo66⟩ := Kd.R_slice HO420.out
                                  (first | subst eo66 | (injection eo66 with f1_ f2_ f3_; have f4_ := f1_.symm; have f5_ := f3_.symm; clear f1_ f2_ f3_; subst f4_; subst f5_))
                                  obtain ⟨Ao67, co67, eo67⟩ := Kd.R_slice HO424.out
                                  (first | subst eo67 | (injection eo67 with f1_ f2_ f3_; have f4_ := f1_.symm; have f5_ := f3_.symm; clear f1_ f2_ f3_; subst f4_; subst f5_))
                                  refine hK.out _ _ ⟨(blk_cell BK393.out 0).trans rfl, (blk_cell BK393.out 1).trans rfl, (blk_cell BK403.out 0).trans rfl, (blk_cell BK403.out 1).trans rfl, (blk_cell BK407.out 0).trans rfl, (blk_cell BK407.out 1).trans rfl, ((HB.out.cell (World.block_lt_of_cell? w _ hw408_0)).trans hw408_0), ((HB.out.cell (World.block_lt_of_cell? w _ hw412_0)).trans hw412_0), ((HB.out.cell (World.block_lt_of_cell? w _ hw417_0)).trans hw417_0), ((HB.out.cell (World.block_lt_of_cell? w _ hw421_0)).trans hw421_0)⟩ (fun hHeld => ?_)
                                  clear hK K
                                  refine norm_ (a' := ?_) ?_ ?_
                                  rotate_left
                                  · show Act.put _ (some 126) _ = _
                                    simp only [Act.put, List.setIfInBounds_toArray, List.set_cons_zero, List.set_cons_succ, i64_w, i32_w]
                                    rfl
                                  refine one_ (i := 27) (N := some 127) #[true, true, true, true, true, true, true, true, true, true, true, true, true, true, true, true, true, true, true, true, true, true, true, true, true, true, true, true, false, false] rfl rfl (one_of HT_.out (by kernel_rfl)) (by decide) (fun K hK => ?_)
                                  refine goes_ Try.func27 (by kernel_rfl) rfl #[.slice Ao66 t418.length co66, .slice Ao67 t422.length co67] (by rfl) rfl rfl (by (try simp only [List.map_toArray, List.map_cons, List.map_nil]); first | done | rfl | (simp only [List.length_drop, List.length_take]; rfl)) ?_
                                  with_reducible refine (gluepotref01_Texts.calls k4 _ _ t418 _ _ t422 true _ ?side1 ?side2 ?side3 ?side4 A57.out).mono ?_
                                  (case side1 => repeat (first | exact (Kd.R_reads' HO420.out).2.2 | (with_reducible refine Kd.C_alloc ?_ _) | (with_reducible refine Kd.C_drewN ?_ _) | (with_reducible refine Kd.C_drew ?_)))
                                  (case side2 => exact (Kd.R_reads' HO420.out).2.1)
                                  (case side3 => repeat (first | exact (Kd.R_reads' HO424.out).2.2 | (with_reducible refine Kd.C_alloc ?_ _) | (with_reducible refine Kd.C_drewN ?_ _) | (with_reducible refine Kd.C_drew ?_)))
                                  (case side4 => exact (Kd.R_reads' HO424.out).2.1)
                                  rintro e w' ⟨rfl, ⟨nd, rfl⟩⟩
                                  refine ⟨_, rfl, ?_⟩
                                  refine hK.out _ _ ⟨(blk_cell BK393.out 0).trans rfl, (blk_cell BK393.out 1).trans rfl, (blk_cell BK403.out 0).trans rfl, (blk_cell BK403.out 1).trans rfl, (blk_cell BK407.out 0).trans rfl, (blk_cell BK407.out 1).trans rfl, ((HB.out.cell (World.block_lt_of_cell? w _ hw408_0)).trans hw408_0), ((HB.out.cell (World.block_lt_of_cell? w _ hw412_0)).trans hw412_0), ((HB.out.cell (World.block_lt_of_cell? w _ hw417_0)).trans hw417_0), ((HB.out.cell (World.block_lt_of_cell? w _ hw421_0)).trans hw421_0)⟩ (fun hHeld => ?_)
                                  clear hK K
                                  refine norm_ (a' := ?_) ?_ ?_
                                  rotate_left
                                  · show Act.put _ (some 127) _ = _
                                    simp only [Act.put, List.setIfInBounds_toArray, List.set_cons_zero, List.set_cons_succ, i64_w, i32_w]
                                    rfl
                                  refine pure_ (i := 28) (N := some 128) (v := ?_) (a' := ?_) #[true, true, true, true, true, true, true, true, true, true, true, true, true, true, true, true, true, true, true, true, true, true, true, true, true, true, true, true, true, false] rfl rfl (any_of HT_.out (by kernel_rfl)) (fun _ _ _ h => h) (Or.inl ⟨by rfl, ?_⟩) ?_ ?_
                                  rotate_left
                                  · intro w'
                                    go_simp
                                    with_reducible rfl
                                  rotate_left
                                  · simp only [Act.put, List.setIfInBounds_toArray, List.set_cons_zero, List.set_cons_succ, i64_w, i32_w]
                                    rfl
                                  refine pure_ (i := 29) (N := some 129) (v := ?_) (a' := ?_) #[true, true, true, true, true, true, true, true, true, true, true, true, true, true, true, true, true, true, true, true, true, true, true, true, true, true, true, true, true, true] rfl rfl (any_of HT_.out (by kernel_rfl)) (fun _ _ _ h => h) (Or.inl ⟨by rfl, ?_⟩) ?_ ?_
                                  rotate_left
                                  · intro w'
                                    go_simp
                                    with_reducible rfl
                                  rotate_left
                                  · simp only [Act.put, List.setIfInBounds_toArray, List.set_cons_zero, List.set_cons_succ, i64_w, i32_w]
                                    rfl
                                  refine done_ (done_of HT_.out (by kernel_rfl)) ?_
                                  try go_wp2
                                  go_roundg k4
                                  case measure => have := HJ5.out; have := HK2.out; have := HJ26.out; have := HK4.out; omega
                                  case rel => exact ⟨(wrap64 (x13_4 + 1)), (by first | rfl | (simp; done) | (simp [*]; done)), H', ⟨by have := HJ5.out; have := HK2.out; have := HJ26.out; have := HK4.out; omega⟩, ⟨by (with_reducible repeat (first | refine blk_drewN ?_ _ | refine blk_drew ?_ | refine blk_alloc ?_ _)); exact BK393.out⟩, ⟨by (with_reducible repeat (first | refine blk_drewN ?_ _ | refine blk_drew ?_ | refine blk_alloc ?_ _)); exact BK403.out⟩, ⟨by (with_reducible repeat (first | refine blk_drewN ?_ _ | refine blk_drew ?_ | refine blk_alloc ?_ _)); exact BK407.out⟩, ⟨by repeat (first | (with_reducible first | exact HB.out | apply below_alloc | apply pw_below_drewN | apply below_drew1 | refine below_set ?_ GE393.out | refine below_set ?_ GE403.out | refine below_set ?_ GE407.out) | exact HB.out)⟩⟩
                                · replace c58 := Bool.eq_false_iff.mpr c58
                                  rw [c58] at H
                                  exact absurd H (by simp)
                              · replace c54 := Bool.eq_false_iff.mpr c54
                                rw [c54] at H
                                exact absurd H (by simp)
                            · rw [if_neg c50] at H
                              exact absurd H (by simp)
                          · rw [if_neg c49] at H
                            have c49b0 : decide (x13_4 < (l0.length : Int)) = false := decide_eq_false c49
                            clear c49
                            obtain rfl := Option.some.inj H
                            go_wp2
                            go_ret
                            exact ⟨by first | rfl | (simp [errW_none, errW_some] <;> rfl) | (simp [*, errW_none, errW_some] <;> rfl), by repeat (first | (with_reducible first | exact HB.out | apply below_alloc | apply pw_below_drewN | apply below_drew1 | refine below_set ?_ GE393.out | refine below_set ?_ GE403.out | refine below_set ?_ GE407.out) | exact HB.out)⟩
  · replace c5 := Bool.eq_false_iff.mpr c5
    rw [c5] at H
    exact absurd H (by simp)

end Go.Proofs.Ytbfjlfbahjmibaa.Pr
