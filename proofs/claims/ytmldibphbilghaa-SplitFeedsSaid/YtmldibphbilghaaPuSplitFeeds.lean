/- The plain law of SplitFeeds. -/
import Derived.Test.YtmldibphbilghaaHLawSplitFeeds
namespace Go.Proofs.Ytmldibphbilghaa.Pure
open Go.RowKit Go.Proofs.Ytmldibphbilghaa.Pr
theorem SplitFeeds (l0 : List ByteArray) (a1 : Int) (x0 : l0.length ≤ maxLen) (y0 : ∀ x ∈ l0, x.size ≤ maxLen) (w1 : (Lit.int .i64 a1).wf = true) : Pr.gluepotlaw03_SplitFeeds.f l0 a1 = some true := by
  unfold gluepotlaw03_SplitFeeds.f
  rw [if_pos (show l0.length ≤ 9223372036854775807 from Nat.le_trans x0 (by decide))]
end Go.Proofs.Ytmldibphbilghaa.Pure
