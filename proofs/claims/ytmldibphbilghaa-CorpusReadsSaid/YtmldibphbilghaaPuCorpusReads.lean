/- The plain law of CorpusReads. -/
import Derived.Test.YtmldibphbilghaaCorAll
set_option linter.unusedVariables false
namespace Go.Proofs.Ytmldibphbilghaa.Pure
open Go.RowKit Go.Proofs.Ytmldibphbilghaa.Pr
theorem CorpusReads (l0 : List ByteArray) (a1 a2 a3 : Int) (x0 : l0.length ≤ maxLen) (y0 : ∀ x ∈ l0, x.size ≤ maxLen) (w1 : (Lit.int .i64 a1).wf = true) (w2 : (Lit.int .i64 a2).wf = true) (w3 : (Lit.int .u8 a3).wf = true) : Pr.gluepotlaw05_CorpusReads.f l0 a1 a2 a3 = some true := by
  have h : 0 ≤ a3 ∧ a3 < 256 := by
    simp [Lit.wf, IntKind.min, IntKind.max, IntKind.signed, IntKind.bits] at w3
    omega
  unfold gluepotlaw05_CorpusReads.f
  rw [if_pos ⟨Nat.le_trans x0 (by decide), h.1, h.2⟩]
end Go.Proofs.Ytmldibphbilghaa.Pure
