/- The plain law of CorpusCuts. -/
import Derived.Test.YtmldibphbilghaaCorpus5
set_option linter.unusedVariables false
namespace Go.Proofs.Ytmldibphbilghaa.Pure
open Go.RowKit Go.Proofs.Ytmldibphbilghaa.Pr
theorem CorpusCuts (a0 : ByteArray) (l1 : List Int) (a2 : Int) (w0 : a0.size ≤ maxLen) (x1 : l1.length ≤ maxLen) (y1 : ∀ x ∈ l1, (Lit.int .u16 x).wf = true) (w2 : (Lit.int .i64 a2).wf = true) : Pr.gluepotlaw05_CorpusCuts.f a0 l1 a2 = some true := by
  have h : ∀ x ∈ l1, 0 ≤ x ∧ x < 65536 := by
    intro x hx
    have := y1 x hx
    simp [Lit.wf, IntKind.min, IntKind.max, IntKind.signed, IntKind.bits] at this
    omega
  unfold gluepotlaw05_CorpusCuts.f
  rw [if_pos ⟨w0, h⟩]
end Go.Proofs.Ytmldibphbilghaa.Pure
