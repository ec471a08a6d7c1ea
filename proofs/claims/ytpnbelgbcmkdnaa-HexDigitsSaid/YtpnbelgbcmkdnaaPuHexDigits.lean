/- The plain law of HexDigits: its walk tells true at every rune. -/
import Derived.Test.YtpnbelgbcmkdnaaHLawHexDigits
namespace Go.Proofs.Ytpnbelgbcmkdnaa.Pure
theorem HexDigits (a0 : Int) (_w0 : (Lit.int .i32 a0).wf = true) : Pr.gluepotlaw01_HexDigits.f a0 = some true := rfl
end Go.Proofs.Ytpnbelgbcmkdnaa.Pure
