/- Plain facts of stats: far, Total, Fits. -/
import Derived.Test.YtbfjlfbahjmibaaBase
import Derived.Test.YtbfjlfbahjmibaaPr18
import Derived.Test.YtbfjlfbahjmibaaPr50
import Derived.Test.YtbfjlfbahjmibaaPr51
import Derived.Test.YtbfjlfbahjmibaaPr52
import Derived.Test.YtbfjlfbahjmibaaPr53
namespace Go.Proofs.Ytbfjlfbahjmibaa.Pure
open Go.RowKit Go.Proofs.Ytbfjlfbahjmibaa.Bs Go.Proofs.YtbfjlfbahjmibaaW.PrintWords Go.Proofs.Ytbfjlfbahjmibaa.Pr
set_option linter.unusedVariables false
set_option linter.unusedSimpArgs false
set_option maxRecDepth 100000 in
theorem awake23 : gluepotlaw23_awake.f 61 = some true := by decide +kernel
def Far (l : List Int) : Prop := ∃ x ∈ l, x > 1125899906842624 ∨ x < -1125899906842624
theorem far_f (a0 a1 a2 a3 a4 a5 : Int) : ∃ b, gluepotlaw23_far.f 61 a0 a1 a2 a3 a4 a5 = some b ∧ (b = false → ∀ x ∈ [a0, a1, a2, a3, a4, a5], -1125899906842624 ≤ x ∧ x ≤ 1125899906842624) := by
  have hw : ∀ n : Nat, n < 10 → wrap64 ((n : Int) + 1) = ((n + 1 : Nat) : Int) := fun n h => by unfold wrap64; omega
  have loop : ∀ (l : List Int), l.length ≤ 6 → ∀ m i k, i + m = l.length → m < k → ∃ b, gluepotlaw23_far.l0 k l (i : Int) = some b ∧ (b = false → ∀ x ∈ l.drop i, -1125899906842624 ≤ x ∧ x ≤ 1125899906842624) := by
    intro l hl m
    induction m with
    | zero =>
      intro i k hi hk
      obtain ⟨k, rfl⟩ : ∃ k', k = k' + 1 := ⟨k - 1, by omega⟩
      refine ⟨false, by rw [gluepotlaw23_far.l0, if_neg (by omega)], fun _ x hx => ?_⟩
      rw [List.drop_of_length_le (by omega)] at hx
      cases hx
    | succ m ih =>
      intro i k hi hk
      obtain ⟨k, rfl⟩ : ∃ k', k = k' + 1 := ⟨k - 1, by omega⟩
      have hlt : i < l.length := by omega
      have hrd : rd l (i : Int) = l[i] := by unfold rd; rw [Int.toNat_natCast, List.getD_eq_getElem?_getD, List.getElem?_eq_getElem hlt]; rfl
      have hd : l.drop i = l[i] :: l.drop (i + 1) := List.drop_eq_getElem_cons hlt
      rw [gluepotlaw23_far.l0, if_pos (by omega), if_pos (by omega), hrd]
      by_cases h1 : l[i] > 1125899906842624
      · rw [if_pos h1]; exact ⟨true, rfl, fun h => by cases h⟩
      · rw [if_neg h1]
        by_cases h2 : l[i] < -1125899906842624
        · rw [if_pos h2]; exact ⟨true, rfl, fun h => by cases h⟩
        · rw [if_neg h2, hw i (by omega)]
          obtain ⟨b, hb, hf⟩ := ih (i + 1) k (by omega) (by omega)
          refine ⟨b, hb, fun h x hx => ?_⟩
          rw [hd] at hx
          rcases List.mem_cons.1 hx with rfl | hx
          · omega
          · exact hf h x hx
  have := loop [a0, a1, a2, a3, a4, a5] (by simp) 6 0 61 (by simp) (by omega)
  simpa [gluepotlaw23_far.f] using this
theorem wr (x : Int) (h1 : -4503599627370496 ≤ x) (h2 : x ≤ 4503599627370496) : wrap64 x = x := by unfold wrap64; omega
/-- Within 2^50. -/
def In (x : S54) : Prop := ∀ y ∈ [x.f0, x.f1, x.f2, x.f3, x.f4, x.f5], -1125899906842624 ≤ y ∧ y ≤ 1125899906842624
/-- The sum of two. -/
def add2 (x y : S54) : S54 := ⟨x.f0 + y.f0, x.f1 + y.f1, x.f2 + y.f2, x.f3 + y.f3, max x.f4 y.f4, x.f5 + y.f5⟩
def six (x : S54) : Int × Int × Int × Int × Int × Int := (x.f0, x.f1, x.f2, x.f3, x.f4, x.f5)
theorem total_step {k : Nat} (l : List S54) (n i : Nat) (x acc : S54) (hi : i < l.length) (hn : n = l.length) (hx : l[i]? = some x) (h0 : i ≠ 0) (hl : n < 100)
    (hb : ∀ y ∈ [acc.f0 + x.f0, acc.f1 + x.f1, acc.f2 + x.f2, acc.f3 + x.f3, acc.f5 + x.f5], -4503599627370496 ≤ y ∧ y ≤ 4503599627370496) :
    stats_Total.l0 (k + 1) l (n : Int) (i : Int) acc.f0 acc.f1 acc.f2 acc.f3 acc.f4 acc.f5 = stats_Total.l0 k l (n : Int) ((i + 1 : Nat) : Int) (add2 acc x).f0 (add2 acc x).f1 (add2 acc x).f2 (add2 acc x).f3 (add2 acc x).f4 (add2 acc x).f5 := by
  have hr : rd_T54 l (i : Int) = x := by unfold rd_T54; rw [Int.toNat_natCast, List.getD_eq_getElem?_getD, hx]; rfl
  have hw : wrap64 ((i : Int) + 1) = ((i + 1 : Nat) : Int) := by unfold wrap64; omega
  simp only [List.mem_cons, List.not_mem_nil, or_false, forall_eq_or_imp, forall_eq] at hb
  obtain ⟨b0, b1, b2, b3, b5⟩ := hb
  rw [stats_Total.l0, if_pos (by omega), if_pos (by omega), if_pos (by omega), if_neg (by omega), hr, hw, wr _ b0.1 b0.2, wr _ b1.1 b1.2, wr _ b2.1 b2.2, wr _ b3.1 b3.2, wr _ b5.1 b5.2]
  by_cases h : x.f4 > acc.f4
  · rw [if_pos h, show (add2 acc x).f4 = x.f4 from (by show max acc.f4 x.f4 = x.f4; omega)]
    rfl
  · rw [if_neg h, show (add2 acc x).f4 = acc.f4 from (by show max acc.f4 x.f4 = acc.f4; omega)]
    rfl
theorem total_first {k : Nat} (l : List S54) (x : S54) (hx : l[0]? = some x) (hl : l.length < 100) (hb : In x) :
    stats_Total.f (k + 1) l = stats_Total.l0 k l (l.length : Int) ((1 : Nat) : Int) x.f0 x.f1 x.f2 x.f3 x.f4 x.f5 := by
  have hr : rd_T54 l 0 = x := by unfold rd_T54; rw [List.getD_eq_getElem?_getD, show (0 : Int).toNat = 0 from rfl, hx]; rfl
  have h0 : 0 < l.length := (List.getElem?_eq_some_iff.1 hx).1
  unfold In at hb
  simp only [List.mem_cons, List.not_mem_nil, or_false, forall_eq_or_imp, forall_eq] at hb
  obtain ⟨b0, b1, b2, b3, b4, b5⟩ := hb
  rw [stats_Total.f, stats_Total.l0, if_pos (by omega), if_pos (by decide), if_pos (by omega), if_pos rfl, hr]
  simp only [Int.zero_add]
  rw [wr _ (by omega) (by omega : x.f0 ≤ _), wr x.f1 (by omega) (by omega), wr x.f2 (by omega) (by omega), wr x.f3 (by omega) (by omega), wr x.f5 (by omega) (by omega), show wrap64 1 = ((1 : Nat) : Int) by decide +kernel]
theorem total_end {k : Nat} (l : List S54) (n : Nat) (hn : n = l.length) (x : S54) : stats_Total.l0 (k + 1) l (l.length : Int) (n : Int) x.f0 x.f1 x.f2 x.f3 x.f4 x.f5 = some (six x) := by
  rw [stats_Total.l0, if_neg (by omega)]
  rfl
theorem total0 : stats_Total.f 60 [] = some (0, 0, 0, 0, 0, 0) := by decide +kernel
theorem total1 (x : S54) (hx : In x) : stats_Total.f 60 [x] = some (six x) := by
  rw [total_first [x] x rfl (by simp) hx]
  exact total_end [x] 1 rfl x
theorem In.bounds {x : S54} (h : In x) : (-1125899906842624 ≤ x.f0 ∧ x.f0 ≤ 1125899906842624) ∧ (-1125899906842624 ≤ x.f1 ∧ x.f1 ≤ 1125899906842624) ∧ (-1125899906842624 ≤ x.f2 ∧ x.f2 ≤ 1125899906842624) ∧ (-1125899906842624 ≤ x.f3 ∧ x.f3 ≤ 1125899906842624) ∧ (-1125899906842624 ≤ x.f4 ∧ x.f4 ≤ 1125899906842624) ∧ (-1125899906842624 ≤ x.f5 ∧ x.f5 ≤ 1125899906842624) := by
  unfold In at h
  simpa only [List.mem_cons, List.not_mem_nil, or_false, forall_eq_or_imp, forall_eq] using h
theorem total2 (x y : S54) (hx : In x) (hy : In y) : stats_Total.f 60 [x, y] = some (six (add2 x y)) := by
  have h1 := hx.bounds
  have h2 := hy.bounds
  rw [total_first [x, y] x rfl (by simp) hx, total_step [x, y] [x, y].length 1 y x (by simp) rfl rfl (by decide) (by simp) (by
    simp only [List.mem_cons, List.not_mem_nil, or_false, forall_eq_or_imp, forall_eq]
    omega)]
  exact total_end [x, y] 2 rfl _
theorem total3 (x y : S54) (hx : In x) (hy : In y) : stats_Total.f 60 [x, y, ⟨0, 0, 0, 0, max x.f4 y.f4, 0⟩] = some (six (add2 x y)) := by
  have h1 := hx.bounds
  have h2 := hy.bounds
  rw [total_first [x, y, ⟨0, 0, 0, 0, max x.f4 y.f4, 0⟩] x rfl (by simp) hx, total_step _ [x, y, (⟨0, 0, 0, 0, max x.f4 y.f4, 0⟩ : S54)].length 1 y x (by simp) rfl rfl (by decide) (by simp) (by
    simp only [List.mem_cons, List.not_mem_nil, or_false, forall_eq_or_imp, forall_eq]
    omega), total_step _ [x, y, (⟨0, 0, 0, 0, max x.f4 y.f4, 0⟩ : S54)].length 2 ⟨0, 0, 0, 0, max x.f4 y.f4, 0⟩ (add2 x y) (by simp) rfl rfl (by decide) (by simp) (by
    simp only [List.mem_cons, List.not_mem_nil, or_false, forall_eq_or_imp, forall_eq, add2]
    omega)]
  have he : add2 (add2 x y) ⟨0, 0, 0, 0, max x.f4 y.f4, 0⟩ = add2 x y := by
    simp only [add2]
    congr 1 <;> omega
  rw [he]
  exact total_end [x, y, ⟨0, 0, 0, 0, max x.f4 y.f4, 0⟩] 3 rfl _
theorem add2_comm (x y : S54) : add2 y x = add2 x y := by
  simp only [add2]
  congr 1 <;> omega
theorem fits_f (x : S54) (c : Int) (hx : In x) : ∃ b, stats_Fits.f 60 x.f0 x.f1 x.f2 x.f3 x.f4 x.f5 c = some b ∧ gluepotref23_Fits.f x.f0 x.f1 x.f2 x.f3 x.f4 x.f5 c = some b := by
  obtain ⟨a0, a1, a2, a3, a4, a5⟩ := x
  have hb := hx.bounds
  simp only at hb ⊢
  have r0 : rd [a0, a1, a2, a3, a4, a5] 0 = a0 := rfl
  have r1 : rd [a0, a1, a2, a3, a4, a5] 1 = a1 := rfl
  have r2 : rd [a0, a1, a2, a3, a4, a5] 2 = a2 := rfl
  have r3 : rd [a0, a1, a2, a3, a4, a5] 3 = a3 := rfl
  have r4 : rd [a0, a1, a2, a3, a4, a5] 4 = a4 := rfl
  have r5 : rd [a0, a1, a2, a3, a4, a5] 5 = a5 := rfl
  have s0 : wrap64 (0 + 1) = 1 := by decide +kernel
  have s1 : wrap64 (1 + 1) = 2 := by decide +kernel
  have s2 : wrap64 (2 + 1) = 3 := by decide +kernel
  have s3 : wrap64 (3 + 1) = 4 := by decide +kernel
  have s4 : wrap64 (4 + 1) = 5 := by decide +kernel
  have s5 : wrap64 (5 + 1) = 6 := by decide +kernel
  have hlen : (([a0, a1, a2, a3, a4, a5].length : Nat) : Int) = 6 := rfl
  unfold stats_Fits.f gluepotref23_Fits.f
  rw [Option.bind_some]
  generalize [a0, a1, a2, a3, a4, a5] = L at *
  rw [hlen]
  rw [stats_Fits.l0, if_pos (by decide), if_pos (by decide), if_pos (by rw [hlen]; decide), r0]
  by_cases c0 : a0 < 0
  · rw [if_pos c0, if_pos c0]; exact ⟨_, rfl, rfl⟩
  rw [if_neg c0, if_neg c0, s0, stats_Fits.l0, if_pos (by decide), if_pos (by decide), if_pos (by rw [hlen]; decide), r1]
  by_cases c1 : a1 < 0
  · rw [if_pos c1, if_pos c1]; exact ⟨_, rfl, rfl⟩
  rw [if_neg c1, if_neg c1, s1, stats_Fits.l0, if_pos (by decide), if_pos (by decide), if_pos (by rw [hlen]; decide), r2]
  by_cases c2 : a2 < 0
  · rw [if_pos c2, if_pos c2]; exact ⟨_, rfl, rfl⟩
  rw [if_neg c2, if_neg c2, s2, stats_Fits.l0, if_pos (by decide), if_pos (by decide), if_pos (by rw [hlen]; decide), r3]
  by_cases c3 : a3 < 0
  · rw [if_pos c3, if_pos c3]; exact ⟨_, rfl, rfl⟩
  rw [if_neg c3, if_neg c3, s3, stats_Fits.l0, if_pos (by decide), if_pos (by decide), if_pos (by rw [hlen]; decide), r4]
  by_cases c4 : a4 < 0
  · rw [if_pos c4, if_pos c4]; exact ⟨_, rfl, rfl⟩
  rw [if_neg c4, if_neg c4, s4, stats_Fits.l0, if_pos (by decide), if_pos (by decide), if_pos (by rw [hlen]; decide), r5]
  by_cases c5 : a5 < 0
  · rw [if_pos c5, if_pos c5]; exact ⟨_, rfl, rfl⟩
  rw [if_neg c5, if_neg c5, s5, stats_Fits.l0, if_neg (by decide)]
  have e1 : wrap64 (Int.tdiv (wrap64 (a2 + 4)) 5) = (a2 + 4) / 5 := by
    rw [wr (a2 + 4) (by omega) (by omega), Int.tdiv_eq_ediv_of_nonneg (by omega)]
    exact wr _ (by omega) (by omega)
  have e2 : wrap64 (Int.tdiv (wrap64 (a4 + 3)) 5) = (a4 + 3) / 5 := by
    rw [wr (a4 + 3) (by omega) (by omega), Int.tdiv_eq_ediv_of_nonneg (by omega)]
    exact wr _ (by omega) (by omega)
  have e3 : wrap64 (5 * a0) = 5 * a0 := by unfold wrap64; omega
  have e4 : wrap64 (5 * a0 + 1) = 5 * a0 + 1 := by unfold wrap64; omega
  rw [e1, e2, e3, e4]
  by_cases d1 : a1 ≤ c
  · rw [if_pos d1, if_pos d1]
    by_cases d2 : a1 ≤ a0
    · rw [if_pos d2, if_pos d2]
      by_cases d3 : a2 ≤ 5 * a0
      · rw [if_pos (show (a2 + 4) / 5 ≤ a0 by omega), if_pos d3]
        by_cases d4 : a4 ≤ 5 * a0 + 1
        · rw [if_pos (show (a4 + 3) / 5 ≤ a0 by omega), if_pos d4]; exact ⟨_, rfl, rfl⟩
        · rw [if_neg (show ¬ (a4 + 3) / 5 ≤ a0 by omega), if_neg d4]; exact ⟨_, rfl, rfl⟩
      · rw [if_neg (show ¬ (a2 + 4) / 5 ≤ a0 by omega), if_neg d3]; exact ⟨_, rfl, rfl⟩
    · rw [if_neg d2, if_neg d2]; exact ⟨_, rfl, rfl⟩
  · rw [if_neg d1, if_neg d1]; exact ⟨_, rfl, rfl⟩
/-! ### a literal of numbers -/
def cells6 (x : S54) : List Value := [.int .i64 x.f0, .int .i64 x.f1, .int .i64 x.f2, .int .i64 x.f3, .int .i64 x.f4, .int .i64 x.f5]
def flat : List S54 → List Value
  | [] => []
  | x :: r => cells6 x ++ flat r
theorem flat_get : ∀ (l : List S54) (j : Nat) (x : S54), l[j]? = some x → ∀ i u, (cells6 x)[i]? = some u → (flat l)[j * 6 + i]? = some u
  | [], j, x, h, i, u, hu => by simp at h
  | y :: r, 0, x, h, i, u, hu => by
    simp at h
    subst h
    have hi : i < 6 := by have := (List.getElem?_eq_some_iff.1 hu).1; simpa [cells6] using this
    rw [flat, List.getElem?_append_left (by simp [cells6]; omega), Nat.zero_mul, Nat.zero_add]
    exact hu
  | y :: r, j + 1, x, h, i, u, hu => by
    rw [flat, List.getElem?_append_right (by simp [cells6]; omega), show (j + 1) * 6 + i - (cells6 y).length = j * 6 + i by simp [cells6]; omega]
    exact flat_get r j x (by simpa using h) i u hu
theorem lit6 (W : World) (l : List S54) (hl : l.length ≤ 100) : Kd.C k54 (W.alloc (.cells (flat l).toArray 54)) (some ⟨W.heap.size, 0, none⟩) l.length l := by
  refine ⟨rfl, by omega, fun _ => ⟨_, rfl, fun j x hj => ⟨cells6 x, rfl, k54_mk _ _, fun i u hu => ?_⟩⟩⟩
  have h := flat_get l j x hj i u hu
  rw [show j * k54.sz + i = j * 6 + i from rfl]
  rw [show (⟨W.heap.size, 0, none⟩ : Addr).add (j * 6 + i) = ⟨W.heap.size, j * 6 + i, none⟩ by unfold Addr.add; split <;> simp_all, cell_heap (heap_new W _)]
  simpa using h
end Go.Proofs.Ytbfjlfbahjmibaa.Pure
