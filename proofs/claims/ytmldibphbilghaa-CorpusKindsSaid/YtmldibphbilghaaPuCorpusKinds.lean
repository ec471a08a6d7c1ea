/- The plain law of CorpusKinds. -/
import Derived.Test.YtmldibphbilghaaCorpus4
set_option linter.unusedVariables false
namespace Go.Proofs.Ytmldibphbilghaa.Pure
open Go.RowKit Go.Proofs.Ytmldibphbilghaa.Pr
theorem CorpusKinds (a0 : ByteArray) (a1 : Int) (w0 : a0.size ≤ maxLen) (w1 : (Lit.int .i64 a1).wf = true) : Pr.gluepotlaw05_CorpusKinds.f a0 a1 = some true := rfl
end Go.Proofs.Ytmldibphbilghaa.Pure
