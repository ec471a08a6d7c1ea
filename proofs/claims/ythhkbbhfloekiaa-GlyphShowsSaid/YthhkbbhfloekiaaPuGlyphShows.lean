/- The plain law of GlyphShows. -/
import Derived.Test.YthhkbbhfloekiaaSpRefGlyph
import Derived.Test.YthhkbbhfloekiaaPr19
namespace Go.Proofs.Ythhkbbhfloekiaa.Pure
open Go.RowKit Go.Proofs.Ythhkbbhfloekiaa.Pr Go.Proofs.YthhkbbhfloekiaaW.PrintWords Go.Proofs.YthhkbbhfloekiaaW.PrintLast
set_option linter.unusedSimpArgs false
theorem GlyphShows (a0 : ByteArray) (_w0 : a0.size ≤ maxLen) : ∃ k, Pr.gluepotlaw02_GlyphShows.f k a0 = some true := by
  refine ⟨700, ?_⟩
  unfold gluepotlaw02_GlyphShows.f
  rw [awake02 (by omega), Option.bind_some, if_pos rfl]
  by_cases h : (a0.size : Int) > 500
  · rw [if_pos h]
  · rw [if_neg h]
    have hl := showL_length a0.data.toList
    rw [size_list] at hl
    unfold glyph_Show.f
    rw [if_pos (by omega), Option.bind_some]
    unfold glyph_Read.f
    rw [if_pos (by rw [mk_size]; omega)]
    simp only [readL_show]
    rw [Option.bind_some, refshow_f _ (by omega) (by omega), Option.bind_some, if_pos rfl, if_pos rfl, if_pos (by rw [mk_list])]
    unfold glyph_Width.f
    rw [if_pos (by rw [mk_size]; omega), Option.bind_some]
    simp only [widthL_show]
    rw [size_list]
    simp
end Go.Proofs.Ythhkbbhfloekiaa.Pure
