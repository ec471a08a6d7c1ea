/- The plain law of StatsFit. -/
import Derived.Test.YtbfjlfbahjmibaaSpStats
import Derived.Test.YtbfjlfbahjmibaaHFit
set_option linter.unusedVariables false
set_option linter.unusedSimpArgs false
namespace Go.Proofs.Ytbfjlfbahjmibaa.Pure
open Go.RowKit Go.Proofs.YtbfjlfbahjmibaaW.PrintWords Go.Proofs.Ytbfjlfbahjmibaa.Pr
theorem mx_max (a b : Int) : mx a b = max a b := by unfold mx; omega
theorem StatsFit (a0 a1 a2 a3 a4 a5 b0 b1 b2 b3 b4 b5 c : Int) (w0 : (Lit.int .i64 a0).wf = true) (w1 : (Lit.int .i64 a1).wf = true) (w2 : (Lit.int .i64 a2).wf = true) (w3 : (Lit.int .i64 a3).wf = true) (w4 : (Lit.int .i64 a4).wf = true) (w5 : (Lit.int .i64 a5).wf = true)
    (v0 : (Lit.int .i64 b0).wf = true) (v1 : (Lit.int .i64 b1).wf = true) (v2 : (Lit.int .i64 b2).wf = true) (v3 : (Lit.int .i64 b3).wf = true) (v4 : (Lit.int .i64 b4).wf = true) (v5 : (Lit.int .i64 b5).wf = true) (wc : (Lit.int .i64 c).wf = true) :
    ∃ k, Pr.gluepotlaw23_StatsFit.f k a0 a1 a2 a3 a4 a5 b0 b1 b2 b3 b4 b5 c = some true := by
  refine ⟨61, ?_⟩
  rw [gluepotlaw23_StatsFit.f, awake23, Option.bind_some, if_pos rfl]
  obtain ⟨fa, hfa, hfa2⟩ := far_f a0 a1 a2 a3 a4 a5
  rw [hfa, Option.bind_some]
  cases fa with
  | true => rw [if_pos rfl, gluepotlaw23_StatsFit.j0, if_pos rfl]
  | false =>
    rw [if_neg (by simp)]
    obtain ⟨fb, hfb, hfb2⟩ := far_f b0 b1 b2 b3 b4 b5
    rw [hfb, Option.bind_some]
    cases fb with
    | true => rw [gluepotlaw23_StatsFit.j0, if_pos rfl]
    | false =>
      rw [gluepotlaw23_StatsFit.j0, if_neg (by simp)]
      have hA : In ⟨a0, a1, a2, a3, a4, a5⟩ := hfa2 rfl
      have hB : In ⟨b0, b1, b2, b3, b4, b5⟩ := hfb2 rfl
      have ha := hA.bounds
      have hb := hB.bounds
      simp only at ha hb
      have hw0 := wr (a0 + b0) (by omega) (by omega)
      have hw1 := wr (a1 + b1) (by omega) (by omega)
      have hw2 := wr (a2 + b2) (by omega) (by omega)
      have hw3 := wr (a3 + b3) (by omega) (by omega)
      have hw5 := wr (a5 + b5) (by omega) (by omega)
      obtain ⟨ff, hf1, hf2⟩ := fits_f ⟨a0, a1, a2, a3, a4, a5⟩ c hA
      simp only at hf1 hf2
      have ht2 := total2 _ _ hA hB
      have ht2' := total2 _ _ hB hA
      rw [add2_comm] at ht2'
      have ht1 := total1 _ hA
      have ht3 := total3 _ _ hA hB
      simp only [six, add2] at ht1 ht2 ht2' ht3
      simp only [mx_max, hw0, hw1, hw2, hw3, hw5, ht2, ht2', ht1, ht3, total0, hf1, hf2, Option.bind_some]
      simp
end Go.Proofs.Ytbfjlfbahjmibaa.Pure
