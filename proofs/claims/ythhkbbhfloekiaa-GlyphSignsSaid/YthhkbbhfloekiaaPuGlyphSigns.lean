/- The plain law of GlyphSigns. -/
import Derived.Test.YthhkbbhfloekiaaSpRefGlyph
import Derived.Test.YthhkbbhfloekiaaPr14
namespace Go.Proofs.Ythhkbbhfloekiaa.Pure
open Go.RowKit Go.Proofs.Ythhkbbhfloekiaa.Pr Go.Proofs.YthhkbbhfloekiaaW.PrintWords Go.Proofs.YthhkbbhfloekiaaW.PrintLast
set_option linter.unusedSimpArgs false
theorem byteR_sign {n : Nat} (hn : n < 256) : byteR (signN n : Int) = ((n : Int), true) := by rw [byteR, byteN_sign hn]
theorem GlyphSigns (a0 : Int) (a1 : Int) (a2 : Int) (w0 : (Lit.int .u8 a0).wf = true) (w1 : (Lit.int .u8 a1).wf = true) (w2 : (Lit.int .i32 a2).wf = true) : ∃ k, Pr.gluepotlaw02_GlyphSigns.f k a0 a1 a2 = some true := by
  refine ⟨700, ?_⟩
  simp [Lit.wf, IntKind.min, IntKind.max, IntKind.signed, IntKind.bits] at w0 w1 w2
  obtain ⟨c, rfl⟩ : ∃ c : Nat, a0 = (c : Int) := ⟨a0.toNat, by omega⟩
  obtain ⟨d, rfl⟩ : ∃ d : Nat, a1 = (d : Int) := ⟨a1.toNat, by omega⟩
  unfold gluepotlaw02_GlyphSigns.f
  have hc : c < 256 := by omega
  have hd : d < 256 := by omega
  have e2 : wrap64 a2 = a2 := by unfold wrap64; omega
  have e3 : wrap64 (signN c : Int) = signN c := by have := signN_lt hc; unfold wrap64; omega
  rw [awake02 (by omega), Option.bind_some, if_pos rfl, byte_f _ (by omega), Option.bind_some, e2, refbyte_f _ (by omega), Option.bind_some, sign_f (by omega) hc, Option.bind_some,
    byte_f _ (by omega), Option.bind_some, Option.bind_some, refsign_f (by omega) hc, Option.bind_some, e3, if_pos rfl, if_pos rfl, if_pos (by simp), byteR_sign hc, if_pos rfl, if_pos rfl,
    Option.bind_some, sign_f (by omega) hd, Option.bind_some]
  congr 1
  by_cases h : c = d
  · subst h; simp
  · have h2 : signN c ≠ signN d := fun e => h (signN_inj hc hd e)
    rw [beq_false_of_ne (by omega : (c : Int) ≠ d), beq_false_of_ne (by omega : (signN c : Int) ≠ signN d)]
    rfl
end Go.Proofs.Ythhkbbhfloekiaa.Pure
