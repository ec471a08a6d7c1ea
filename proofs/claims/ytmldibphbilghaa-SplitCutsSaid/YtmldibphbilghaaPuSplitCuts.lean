/- The plain law of SplitCuts. -/
import Derived.Test.YtmldibphbilghaaHLawSplitCuts
namespace Go.Proofs.Ytmldibphbilghaa.Pure
open Go.RowKit Go.Proofs.Ytmldibphbilghaa.Pr
theorem SplitCuts (a0 : ByteArray) (l1 : List Int) (w0 : a0.size ≤ maxLen) (_x1 : l1.length ≤ maxLen) (y1 : ∀ x ∈ l1, (Lit.int .u16 x).wf = true) : Pr.gluepotlaw03_SplitCuts.f a0 l1 = some true := by
  have h : ∀ x ∈ l1, 0 ≤ x ∧ x < 65536 := by
    intro x hx
    have := y1 x hx
    simp [Lit.wf, IntKind.min, IntKind.max, IntKind.signed, IntKind.bits] at this
    omega
  unfold gluepotlaw03_SplitCuts.f
  rw [if_pos ⟨w0, h⟩]
end Go.Proofs.Ytmldibphbilghaa.Pure
