/- The plain law of HexPuts: the printed function of the law answers true at every text. -/
import Derived.Test.YtpnbelgbcmkdnaaSpHex
import Derived.Test.YtpnbelgbcmkdnaaBytes
import Derived.Test.YtpnbelgbcmkdnaaHRefPut
import Derived.Test.YtpnbelgbcmkdnaaPr22
namespace Go.Proofs.Ytpnbelgbcmkdnaa.Pure
open Go.RowKit Go.Proofs.Ytpnbelgbcmkdnaa.Pr Go.Proofs.YtpnbelgbcmkdnaaW.PrintWords Go.Proofs.YtpnbelgbcmkdnaaW.PrintLast
set_option linter.unusedSimpArgs false

/-- Take reads what Put writes. -/
theorem hexVal_dig : ∀ q : Fin 16, hexVal (hexDig q.val).toNat = some q.val := by decide +kernel
theorem trun_put_from (l : List UInt8) : ∀ st : TS, st.odd = false → (hexPut l).foldlM (fun st c => (hexVal c.toNat).map (tstep st)) st = some ⟨(match l.getLast? with | some c => c.toNat % 16 | none => st.high), false, st.out ++ l⟩ := by
  induction l with
  | nil => intro st h; obtain ⟨a, b, c⟩ := st; simp at h; simp [hexPut, h]
  | cons c l ih =>
    intro st h
    have h1 := hexVal_dig ⟨c.toNat / 16, by have := c.toNat_lt; omega⟩
    have h2 := hexVal_dig ⟨c.toNat % 16, by omega⟩
    simp only at h1 h2
    have hc : hexPut (c :: l) = hexDig (c.toNat / 16) :: hexDig (c.toNat % 16) :: hexPut l := by simp [hexPut]
    rw [hc]
    simp only [List.foldlM_cons, h1, h2, Option.map_some, Option.bind_eq_bind, Option.bind_some]
    have ht : tstep (tstep st (c.toNat / 16)) (c.toNat % 16) = ⟨c.toNat % 16, false, st.out ++ [c]⟩ := by
      have hcc : UInt8.ofNat (16 * (c.toNat / 16) + c.toNat % 16) = c := by
        rw [Nat.div_add_mod]
        simp
      simp [tstep, h, hcc]
    rw [ht, ih _ rfl]
    cases l with
    | nil => simp
    | cons d l => simp [List.getLast?_cons]
theorem take_put (l : List UInt8) (hl : l.length ≤ 1000) : hex_Take.f ⟨(hexPut l).toArray⟩ = some (⟨l.toArray⟩, true) := by
  have h := trun_put_from l ⟨0, false, []⟩ rfl
  unfold hex_Take.f
  rw [if_pos (by rw [mk_size, hexPut_length]; omega)]
  have h2 : trun (⟨(hexPut l).toArray⟩ : ByteArray).data.toList = some ⟨(match l.getLast? with | some c => c.toNat % 16 | none => 0), false, l⟩ := by
    simpa [trun] using h
  rw [h2]
  simp

theorem HexPuts (a0 : ByteArray) (_w0 : a0.size ≤ maxLen) : Pr.gluepotlaw01_HexPuts.f a0 = some true := by
  unfold gluepotlaw01_HexPuts.f
  rw [awake01]
  simp only [Option.bind_some, if_true]
  by_cases h : (a0.size : Int) > 1000
  · rw [if_pos h]
  · rw [if_neg h]
    unfold hex_Put.f gluepotref01_Put.f
    rw [if_pos (by omega)]
    simp only [Option.bind_some]
    rw [take_put _ (by rw [size_list]; omega)]
    simp [toList_data]

end Go.Proofs.Ytpnbelgbcmkdnaa.Pure
