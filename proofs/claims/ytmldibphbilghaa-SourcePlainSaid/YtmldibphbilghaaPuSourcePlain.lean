/- The plain law of SourcePlain. -/
import Derived.Test.YtmldibphbilghaaSource5
set_option linter.unusedVariables false
namespace Go.Proofs.Ytmldibphbilghaa.Pure
open Go.RowKit Go.Proofs.Ytmldibphbilghaa.Pr
theorem SourcePlain (a0 : ByteArray) (w0 : a0.size ≤ maxLen) : Pr.gluepotlaw04_SourcePlain.f a0 = some true := rfl
end Go.Proofs.Ytmldibphbilghaa.Pure
