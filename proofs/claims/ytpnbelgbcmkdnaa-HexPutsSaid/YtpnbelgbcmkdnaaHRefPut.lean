/- The contract of gluepotref01.Put: it returns the digits of every text of at most 2^46 bytes. -/
import Derived.Test.YtpnbelgbcmkdnaaHHex
import Derived.Test.YtpnbelgbcmkdnaaBytes
import Derived.BigQuiet
import Derived.IntWalk
namespace Go.Proofs.Ytpnbelgbcmkdnaa.Pr
open Go.RowKit Go.Proofs.Ytpnbelgbcmkdnaa.Bs Go.Proofs.YtpnbelgbcmkdnaaW.PrintWords Go.Proofs.YtpnbelgbcmkdnaaW.PrintLast Go.Proofs.YtpnbelgbcmkdnaaW.PrintMore
set_option linter.unusedVariables false
set_option linter.unusedSimpArgs false

def gluepotref01_Put.f (a0 : ByteArray) : Option ByteArray := if a0.size * 2 ≤ 140737488355328 then some ⟨(hexPut a0.data.toList).toArray⟩ else none

abbrev digs : ByteArray := ⟨#[48, 49, 50, 51, 52, 53, 54, 55, 56, 57, 97, 98, 99, 100, 101, 102]⟩
theorem dig_extract (q : Nat) (hq : q < 16) : digs.extract q (q + 1) = ⟨[hexDig q].toArray⟩ := by
  have key : ∀ q : Fin 16, digs.extract q.val (q.val + 1) = ⟨[hexDig q.val].toArray⟩ := by decide +kernel
  exact key ⟨q, hq⟩

set_option maxHeartbeats 2000000 in
set_option maxRecDepth 100000 in
theorem gluepotref01_Put.calls (a0 : ByteArray) (r : ByteArray) (w : World) (h : gluepotref01_Put.f a0 = some r) :
    Calls Try.prog 20 #[.string a0] w fun e w' => e = .returned (.string r) ∧ Drawn0 w w' := by
  unfold gluepotref01_Put.f at h
  split at h
  · rename_i hsz
    cases h
    go_enter Try.func20, Try.ntmps20
    go_wp2
    go_loopw [4, 5] (fun v4 v5 wr => ∃ k : Nat, k ≤ a0.size ∧ v5 = .int .i64 k ∧ v4 = .string ⟨(hexPut (a0.data.toList.take k)).toArray⟩ ∧ Drawn0 w wr) (fun _ v5 _ => a0.size - (intOf v5).toNat)
    case atStart => exact ⟨0, Nat.zero_le _, rfl, rfl, Drawn0.refl _⟩
    case round =>
      obtain ⟨k, hk, rfl, rfl, hd⟩ := hrel
      have HD := Lib.hid hd
      clear hd
      by_cases hlt : k < a0.size
      · have hstep : hexPut (a0.data.toList.take (k + 1)) = hexPut (a0.data.toList.take k) ++ [hexDig ((a0.data.toList.getD k 0).toNat / 16)] ++ [hexDig ((a0.data.toList.getD k 0).toNat % 16)] := by
          rw [take_succ_getD _ _ (by rw [Pure.size_list]; omega), hexPut_snoc]
        have hlen : (hexPut (a0.data.toList.take k)).length = 2 * k := by rw [hexPut_length, List.length_take, Nat.min_eq_left (by rw [Pure.size_list]; omega)]
        obtain ⟨c, hc⟩ : ∃ c : Nat, (a0.data[k]'hlt).toNat = c := ⟨_, rfl⟩
        have hgc : (a0.data.toList.getD k 0).toNat = c := by
          rw [← hc, List.getD_eq_getElem?_getD, List.getElem?_eq_getElem (by rw [Pure.size_list]; omega)]
          rfl
        have hc' : (a0[k]'hlt).toNat = c := hc
        have hc0 : c < 256 := by rw [← hc]; exact (a0.data[k]'hlt).toNat_lt
        rw [hgc] at hstep
        generalize hL : hexPut (a0.data.toList.take k) = L at *
        have hLs : (⟨L.toArray⟩ : ByteArray).size = 2 * k := by rw [Pure.mk_size, hlen]
        have HL := Lib.hid hL
        have HS := Lib.hid hstep
        obtain ⟨q, hq⟩ : ∃ q : Nat, c / 16 = q := ⟨_, rfl⟩
        obtain ⟨m, hm⟩ : ∃ m : Nat, c % 16 = m := ⟨_, rfl⟩
        have hq0 : q < 16 := by omega
        have hm0 : m < 16 := by omega
        have r1 : IntKind.i64.wrap (c : Int) = c := IntWalk.i64_in _ (by omega)
        have r2 : Int.tdiv (c : Int) 16 = q := by rw [Int.tdiv_eq_ediv_of_nonneg (by omega)]; omega
        have r3 : Int.tmod (c : Int) 16 = m := by rw [Int.tmod_eq_emod_of_nonneg (by omega)]; omega
        have r4 : IntKind.i64.wrap (q : Int) = q := IntWalk.i64_in _ (by omega)
        have r5 : IntKind.i64.wrap ((q : Int) + 1) = (q : Int) + 1 := IntWalk.i64_in _ (by omega)
        have r6 : IntKind.i64.wrap ((m : Int) + 1) = (m : Int) + 1 := IntWalk.i64_in _ (by omega)
        have h0 : (0 : Int) ≤ (k : Int) := by omega
        have h1 : (k : Int) < (a0.size : Int) := by omega
        have h2 : (0 : Int) ≤ (q : Int) := by omega
        have h3 : (q : Int) ≤ (q : Int) + 1 := by omega
        have h4 : (q : Int) + 1 ≤ 16 := by omega
        have h5 : (0 : Int) ≤ (m : Int) := by omega
        have h6 : (m : Int) ≤ (m : Int) + 1 := by omega
        have h7 : (m : Int) + 1 ≤ 16 := by omega
        have HQ := Lib.hid hq
        have HM := Lib.hid hm
        clear hL hstep hgc hq hm hlen
        go_wp2_with fail
        go_quiet (fail)
        go_wp2
        go_roundw
        case rel =>
          refine ⟨k + 1, by omega, by go_num, ?_, HD.out.step _⟩
          rw [HS.out, HQ.out, HM.out, ← Pure.mk_append, ← Pure.mk_append, ← dig_extract q hq0, ← dig_extract m hm0]
        case measure => simp [intOf]; omega
      · go_wp2
        go_ret
        have hk' : k = a0.size := by omega
        subst hk'
        refine ⟨?_, HD.out⟩
        rw [List.take_of_length_le (by rw [Pure.size_list]; omega)]
        rfl
  · cases h
end Go.Proofs.Ytpnbelgbcmkdnaa.Pr
