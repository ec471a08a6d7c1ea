/- The plain law of SplitWords. -/
import Derived.Test.YtmldibphbilghaaSpWords
import Derived.Test.YtmldibphbilghaaHLaw03
import Derived.Test.YtmldibphbilghaaPr20
namespace Go.Proofs.Ytmldibphbilghaa.Pure
open Go.RowKit Go.Proofs.Ytmldibphbilghaa.Pr Go.Proofs.YtmldibphbilghaaW.PrintWords Go.Proofs.YtmldibphbilghaaW.PrintLast
set_option linter.unusedSimpArgs false
theorem SplitWords (a0 : ByteArray) (a1 : Int) (_w0 : a0.size ≤ maxLen) (w1 : (Lit.int .u8 a1).wf = true) : ∃ k, Pr.gluepotlaw03_SplitWords.f k a0 a1 = some true := by
  refine ⟨10000, ?_⟩
  simp [Lit.wf, IntKind.min, IntKind.max, IntKind.signed, IntKind.bits] at w1
  unfold gluepotlaw03_SplitWords.f gluepotlaw03_awake.f
  rw [Option.bind_some, if_pos rfl]
  by_cases h : (a0.size : Int) > 3000
  · rw [if_pos h]
  · rw [if_neg h]
    have hl := wordsW_len a0.data.toList []
    rw [size_list] at hl
    unfold split_Words.f split_Gap.f
    rw [if_pos (by omega), Option.bind_some, refwords_f _ (by omega) (by omega), Option.bind_some, wordsL_W, texts_same _ (by simp; omega) (by simp; omega), Option.bind_some, if_pos rfl, Option.bind_some, gapI _ (by omega) (by omega), Option.bind_some]
    simp
end Go.Proofs.Ytmldibphbilghaa.Pure
