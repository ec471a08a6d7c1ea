/- The plain law of CheckedTells: the printed function of the law answers true at all integers. -/
import Derived.Test.YtpnbelgbcmkdnaaSpCk
import Derived.Test.YtpnbelgbcmkdnaaPr8
namespace Go.Proofs.Ytpnbelgbcmkdnaa.Pure
open Go.RowKit Go.Proofs.Ytpnbelgbcmkdnaa.Pr Go.Proofs.YtpnbelgbcmkdnaaW.PrintWords Go.Proofs.YtpnbelgbcmkdnaaW.PrintLast
set_option linter.unusedSimpArgs false

theorem awake06 : gluepotlaw06_awake.f = some true := by
  unfold gluepotlaw06_awake.f
  rw [checked_Add_eq (by omega) (by omega), checked_Add_eq (by omega) (by omega)]
  rfl

theorem CheckedTells (a0 a1 : Int) (w0 : (Lit.int .i64 a0).wf = true) (w1 : (Lit.int .i64 a1).wf = true) : ∃ k, Pr.gluepotlaw06_CheckedTells.f k a0 a1 = some true := by
  have h0 := wf_i64 w0
  have h1 := wf_i64 w1
  refine ⟨1, ?_⟩
  unfold gluepotlaw06_CheckedTells.f
  rw [awake06, checked_Add_eq h0 h1, ref06_Add_eq h0 h1, checked_Mul_eq (Nat.le_refl _) h0 h1, ref06_Mul_eq h0 h1]
  simp

end Go.Proofs.Ytpnbelgbcmkdnaa.Pure
