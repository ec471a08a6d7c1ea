/- The plain law of SourceTells. -/
import Derived.Test.YtmldibphbilghaaHLawSourceTells
set_option linter.unusedVariables false
namespace Go.Proofs.Ytmldibphbilghaa.Pure
open Go.RowKit Go.Proofs.Ytmldibphbilghaa.Pr
theorem SourceTells (l0 : List ByteArray) (a1 : Int) (x0 : l0.length ≤ maxLen) (y0 : ∀ x ∈ l0, x.size ≤ maxLen) (w1 : (Lit.int .i64 a1).wf = true) : Pr.gluepotlaw04_SourceTells.f l0 a1 = some true := by
  unfold gluepotlaw04_SourceTells.f
  rw [if_pos (show l0.length ≤ 9223372036854775807 from Nat.le_trans x0 (by decide))]
end Go.Proofs.Ytmldibphbilghaa.Pure
