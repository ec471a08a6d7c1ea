/- The plain law of SourceKinds. -/
import Derived.Test.YtmldibphbilghaaSource3
namespace Go.Proofs.Ytmldibphbilghaa.Pure
open Go.RowKit Go.Proofs.Ytmldibphbilghaa.Pr
theorem SourceKinds (a0 : Int) (a1 : ByteArray) (w0 : (Lit.int .i64 a0).wf = true) (w1 : a1.size ≤ maxLen) : Pr.gluepotlaw04_SourceKinds.f a0 a1 = some true := rfl
end Go.Proofs.Ytmldibphbilghaa.Pure
