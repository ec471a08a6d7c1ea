/- The contracts of hex.Put and hex.Take: Put returns the digits of every text (of at most 2^46 bytes); Take returns the text of the digits of every text that is the digits of one, else the empty text and false. -/
import Derived.Test.YtpnbelgbcmkdnaaBWriteByte
import Derived.Test.YtpnbelgbcmkdnaaPr0
import Derived.Test.YtpnbelgbcmkdnaaPr15
import Derived.Lib.ConvBytes
import Derived.Laws.BitsLemmas
namespace Go.Proofs.Ytpnbelgbcmkdnaa.Pr
open Go.RowKit Go.Proofs.Ytpnbelgbcmkdnaa.Bs Go.Proofs.YtpnbelgbcmkdnaaW.PrintWords Go.Proofs.YtpnbelgbcmkdnaaW.PrintLast Go.Proofs.YtpnbelgbcmkdnaaW.PrintMore
set_option linter.unusedVariables false
set_option linter.unusedSimpArgs false

def hexDigs : List UInt8 := [48, 49, 50, 51, 52, 53, 54, 55, 56, 57, 97, 98, 99, 100, 101, 102]
def hexDig (n : Nat) : UInt8 := hexDigs.getD n 0
def hexPut (l : List UInt8) : List UInt8 := l.flatMap fun c => [hexDig (c.toNat / 16), hexDig (c.toNat % 16)]
def hex_Put.f (a0 : ByteArray) : Option ByteArray := if a0.size * 2 ≤ 140737488355328 then some ⟨(hexPut a0.data.toList).toArray⟩ else none

theorem hexDig_at (n : Nat) (h : n < (⟨#[48, 49, 50, 51, 52, 53, 54, 55, 56, 57, 97, 98, 99, 100, 101, 102]⟩ : ByteArray).size) :
    (⟨#[48, 49, 50, 51, 52, 53, 54, 55, 56, 57, 97, 98, 99, 100, 101, 102]⟩ : ByteArray)[n]'h = hexDig n := by
  have hn : n < 16 := h
  match n, hn with
  | 0, _ => rfl
  | 1, _ => rfl
  | 2, _ => rfl
  | 3, _ => rfl
  | 4, _ => rfl
  | 5, _ => rfl
  | 6, _ => rfl
  | 7, _ => rfl
  | 8, _ => rfl
  | 9, _ => rfl
  | 10, _ => rfl
  | 11, _ => rfl
  | 12, _ => rfl
  | 13, _ => rfl
  | 14, _ => rfl
  | 15, _ => rfl
  | m + 16, h => exact absurd h (by omega)
theorem hexPut_length (l : List UInt8) : (hexPut l).length = 2 * l.length := by
  induction l with
  | nil => rfl
  | cons c l ih =>
    show (hexPut (c :: l)).length = _
    simp only [hexPut, List.flatMap_cons, List.length_append, List.length_cons, List.length_nil] at ih ⊢
    omega
theorem hexPut_snoc (l : List UInt8) (c : UInt8) : hexPut (l ++ [c]) = hexPut l ++ [hexDig (c.toNat / 16)] ++ [hexDig (c.toNat % 16)] := by simp [hexPut]

theorem take_succ_getD (l : List UInt8) (k : Nat) (h : k < l.length) : l.take (k + 1) = l.take k ++ [l.getD k 0] := by
  rw [List.take_succ_eq_append_getElem h, List.getD_eq_getElem?_getD, List.getElem?_eq_getElem h]
  rfl

set_option maxHeartbeats 1000000 in
set_option maxRecDepth 100000 in
theorem hex_Put.calls (a0 : ByteArray) (r : ByteArray) (w : World) (h : hex_Put.f a0 = some r) :
    Calls Try.prog 18 #[.string a0] w fun e w' => e = .returned (.string r) ∧ Below w.heap.size w w' := by
  unfold hex_Put.f at h
  split at h
  · rename_i hsz
    cases h
    have hcv := fun W => Lib.run_convert_string_bytes (P := Try.prog) W 9 45 5 a0 Try.underlying9 Try.underlying45 Try.underlying5
    obtain ⟨o, hbyte, hIn⟩ := Bld.begin_bytes w a0
    have HI := Lib.hid hIn
    have HB := Lib.hid hbyte
    clear hIn hbyte
    go_enter Try.func18, Try.ntmps18
    go_wp2
    generalize Lib.bytesWorld (w.alloc (.cells #[.pointer none, .slice none 0 0] 47)) 5 a0 = w1 at *
    generalize grownCap (w.alloc (.cells #[.pointer none, .slice none 0 0] 47)) a0.size 0 5 = cap at *
    clear hcv
    go_loopw [9] (fun i wr => ∃ k : Nat, k ≤ a0.size ∧ i = .int .i64 k ∧ Bld.BIn w w.heap.size (w.heap.size + 1) o (hexPut (a0.data.toList.take k)) wr) (fun i _ => a0.size - (intOf i).toNat)
    case atStart => exact ⟨0, Nat.zero_le _, rfl, HI.out⟩
    case round =>
      obtain ⟨k, hk, rfl, hin⟩ := hrel
      have HIN := Lib.hid hin
      clear hin HI
      by_cases hlt : k < a0.size
      · have hc := HB.out wr HIN.out.block k hlt
        have hsn : hexPut (a0.data.toList.take (k + 1)) = hexPut (a0.data.toList.take k) ++ [hexDig ((a0.data.toList.getD k 0).toNat / 16)] ++ [hexDig ((a0.data.toList.getD k 0).toNat % 16)] := by
          rw [take_succ_getD _ _ (by simpa using hlt), hexPut_snoc]
        have hlen : (hexPut (a0.data.toList.take k)).length = 2 * k := by rw [hexPut_length, List.length_take, Nat.min_eq_left (by simpa using hk)]
        generalize a0.data.toList.getD k 0 = x at hc hsn
        have HS := Lib.hid hsn
        have HL := Lib.hid hlen
        clear hsn hlen
        have hx := x.toNat_lt
        have h1 : (0 : Int) ≤ (x.toNat : Int) / 16 := by omega
        have h2 : (x.toNat : Int) / 16 < 16 := by omega
        have h3 : bits .and .u8 (x.toNat : Int) 15 = (x.toNat : Int) % 16 := u8_and15 (x := (x.toNat : Int)) (by omega) (by omega)
        have h4 : (0 : Int) ≤ (x.toNat : Int) % 16 := by omega
        have h5 : (x.toNat : Int) % 16 < 16 := by omega
        go_wp2_with fail
        refine (Bld.writeByte_in _ HIN.out (by rw [HL.out]; omega)).mono ?_
        rintro e w2 ⟨rfl, hin2⟩
        have HIN2 := Lib.hid hin2
        clear hin2
        go_wp2_with fail
        refine (Bld.writeByte_in _ HIN2.out (by rw [List.length_append, HL.out]; simp; omega)).mono ?_
        rintro e w3 ⟨rfl, hin3⟩
        have HIN3 := Lib.hid hin3
        clear hin3
        go_wp2
        go_roundw
        case rel =>
          refine ⟨k + 1, by omega, by go_num, ?_⟩
          rw [HS.out, ← hexDig_at, ← hexDig_at]
          exact HIN3.out
        case measure => simp [intOf]; omega
      · go_wp2_with (go_at_call 27; refine (Bld.string_in HIN.out).mono ?_; rintro e w' ⟨rfl, hb⟩)
        go_ret
        have hk' : k = a0.size := by omega
        subst hk'
        refine ⟨?_, hb⟩
        rw [List.take_of_length_le (by simp)]
        rfl
  · cases h

/-! ### Take -/
def hexVal (c : Nat) : Option Nat := if 48 ≤ c ∧ c ≤ 57 then some (c - 48) else if 97 ≤ c ∧ c ≤ 102 then some (c - 87) else none
structure TS where
  high : Nat
  odd : Bool
  out : List UInt8
def tstep (st : TS) (d : Nat) : TS := if st.odd then ⟨d, false, st.out ++ [UInt8.ofNat (16 * st.high + d)]⟩ else ⟨d, true, st.out⟩
def trun (l : List UInt8) : Option TS := l.foldlM (fun st c => (hexVal c.toNat).map (tstep st)) ⟨0, false, []⟩
def hex_Take.f (a0 : ByteArray) : Option (ByteArray × Bool) :=
  if a0.size ≤ 140737488355328 then
    match trun a0.data.toList with
    | some st => if st.odd then some (⟨#[]⟩, false) else some (⟨st.out.toArray⟩, true)
    | none => some (⟨#[]⟩, false)
  else none

theorem trun_snoc (l : List UInt8) (c : UInt8) : trun (l ++ [c]) = (trun l).bind fun st => (hexVal c.toNat).map (tstep st) := by
  simp [trun, List.foldlM_append]
theorem trun_none (l m : List UInt8) (h : trun l = none) : trun (l ++ m) = none := by
  simp only [trun, List.foldlM_append] at h ⊢
  rw [h]
  rfl
theorem hexVal_lt {c d : Nat} (h : hexVal c = some d) : d < 16 := by
  unfold hexVal at h
  split at h
  · cases h; omega
  · split at h
    · cases h; omega
    · cases h
theorem hexVal_lt128 {c d : Nat} (h : hexVal c = some d) : c < 128 := by
  unfold hexVal at h
  split at h
  · omega
  · split at h
    · omega
    · cases h

theorem digit_some {c d : Nat} (h : hexVal c = some d) : hex_Digit.f 1 (c : Int) = some ((d : Int), true) := by
  unfold hexVal at h
  unfold hex_Digit.f
  split at h
  · cases h
    rw [if_pos (by omega)]
    simp only [hex_Digit.j0, show ((c : Int) ≤ 57) = True from eq_true (by omega), decide_true, if_true]
    rw [show wrap64 (wrap32 ((c : Int) - 48)) = ((c - 48 : Nat) : Int) from by unfold wrap64 wrap32; omega]
  · split at h
    · cases h
      rw [if_pos (by omega)]
      simp only [hex_Digit.j0, show ((c : Int) ≤ 57) = False from eq_false (by omega), decide_false, Bool.false_eq_true, if_false]
      rw [if_pos (by omega), if_pos (by omega)]
      rw [show wrap64 (wrap64 (wrap32 ((c : Int) - 97)) + 10) = ((c - 87 : Nat) : Int) from by unfold wrap64 wrap32; omega]
    · cases h
theorem digit_none {c : Nat} (h : hexVal c = none) : hex_Digit.f 1 (c : Int) = some (0, false) := by
  unfold hexVal at h
  unfold hex_Digit.f
  split at h
  · cases h
  · split at h
    · cases h
    · by_cases h1 : (c : Int) ≥ 48
      · rw [if_pos h1]
        simp only [hex_Digit.j0, show ((c : Int) ≤ 57) = False from eq_false (by omega), decide_false, Bool.false_eq_true, if_false]
        by_cases h2 : (c : Int) ≥ 97
        · rw [if_pos h2, if_neg (by omega)]
        · rw [if_neg h2]
      · rw [if_neg h1]
        simp only [hex_Digit.j0, Bool.false_eq_true, if_false]
        rw [if_neg (by omega)]

theorem or16 (h n : Nat) (hh : h < 16) (hn : n < 16) : bits .or .i64 ((h : Int) * 16) n = (h : Int) * 16 + n :=
  bits_join .i64 63 (by decide) (fun n h0 h1 => by rw [IntKind.wrap_i64]; omega) 4 _ _ (by omega) (by omega) (by omega) (by omega) (by omega) (by omega)

/-- What holds of the walk's slots behind pos bytes. -/
def TRel (w : World) (s : ByteArray) (v5 v6 : Value) (pos : Nat) (st : TS) (wr : World) : Prop :=
  pos ≤ s.size ∧ trun (s.data.toList.take pos) = some st ∧ v5 = .int .i64 st.high ∧ v6 = .bool st.odd ∧ st.high < 16 ∧ st.out.length ≤ pos ∧ Bld.BIn w w.heap.size (w.heap.size + 1) (.stringIter s pos) st.out wr

set_option maxHeartbeats 2000000 in
set_option maxRecDepth 100000 in
theorem hex_Take.calls (a0 : ByteArray) (r1 : ByteArray) (r2 : Bool) (w : World) (h : hex_Take.f a0 = some (r1, r2)) :
    Calls Try.prog 19 #[.string a0] w fun e w' => e = .returned (.tuple #[.string r1, .bool r2]) ∧ Below w.heap.size w w' := by
  unfold hex_Take.f at h
  split at h
  · rename_i hsz
    have H := Lib.hid h
    clear h
    have HI := Lib.hid (Bld.begin_iter w a0)
    go_enter Try.func19, Try.ntmps19
    go_wp2
    go_loopw [5, 6] (fun v5 v6 wr => ∃ pos st, TRel w a0 v5 v6 pos st wr) (fun _ _ wr => a0.size - wr.iterPos (w.heap.size + 1))
    case atStart => exact ⟨0, ⟨0, false, []⟩, Nat.zero_le _, rfl, rfl, rfl, by decide, by simp, HI.out⟩
    case round =>
      obtain ⟨pos, st, hpos, hrun, rfl, rfl, hh, hol, hin⟩ := hrel
      have HIN := Lib.hid hin
      have HR := Lib.hid hrun
      clear hin hrun HI
      obtain ⟨high, odd, out⟩ := st
      by_cases hlt : pos < a0.size
      · obtain ⟨wn, hnx, hin⟩ := HIN.out.next (by omega) hlt
        have hd31 := decode_le a0 pos
        have hget : a0.data.toList[pos]? = some (a0[pos]'hlt) := by
          rw [List.getElem?_eq_getElem (by simpa using hlt)]
          rfl
        have htk : a0.data.toList.take (pos + 1) = a0.data.toList.take pos ++ [a0[pos]'hlt] := by
          rw [List.take_add_one, hget]
          rfl
        have hfull : a0.data.toList.take (pos + 1) ++ a0.data.toList.drop (pos + 1) = a0.data.toList := List.take_append_drop _ _
        cases hv : hexVal (a0[pos]'hlt).toNat with
        | none =>
          have hn : hexVal (Utf8.decode a0 pos).1 = none := by
            rcases Nat.lt_or_ge (a0[pos]'hlt).toNat 128 with h1 | h1
            · rw [decode_ascii a0 pos hlt h1]
              exact hv
            · have h2 := (decode_high a0 pos hlt h1).1
              cases hq : hexVal (Utf8.decode a0 pos).1 with
              | none => rfl
              | some d => have := hexVal_lt128 hq; omega
          have hT : trun a0.data.toList = none := by
            rw [← hfull]
            apply trun_none
            rw [htk, trun_snoc, HR.out]
            simp [hv]
          have hres := H.out
          rw [hT] at hres
          cases hres
          have HD := Lib.hid (digit_none hn)
          clear hn hT hv htk hfull hget H
          have HN := Lib.hid hin
          clear hin
          generalize (Utf8.decode a0 pos).1 = n at *
          go_wp2_with fail
          refine (hex_Digit.calls 1 _ 0 false _ HD.out).mono ?_
          rintro e w2 ⟨rfl, ⟨q, rfl⟩⟩
          go_wp2
          go_ret2
          exact ⟨rfl, HN.out.below.trans (pw_below_drewN (Below.refl _ _) q)⟩
        | some d =>
          have hc := hexVal_lt128 hv
          have hd := hexVal_lt hv
          have hdec := decode_ascii a0 pos hlt hc
          rw [hdec] at hin hnx
          have hT : trun (a0.data.toList.take (pos + 1)) = some (tstep ⟨high, odd, out⟩ d) := by
            rw [htk, trun_snoc, HR.out]
            simp [hv]
          have HD := Lib.hid (digit_some hv)
          have HT := Lib.hid hT
          have HN := Lib.hid hin
          clear hdec hT hv htk hfull hget hin
          generalize (a0[pos]'hlt).toNat = n at *
          cases odd with
          | true =>
            go_wp2_with fail
            refine (hex_Digit.calls 1 _ d true _ HD.out).mono ?_
            rintro e w2 ⟨rfl, ⟨q, rfl⟩⟩
            have h1 : (high : Int) * 16 ≤ 240 := by omega
            have h2 := or16 high d hh hd
            have h3 : (0 : Int) ≤ (high : Int) * 16 + d := by omega
            have h4 : (high : Int) * 16 + d < 256 := by omega
            go_wp2_with fail
            refine (Bld.writeByte_num _ (16 * high + d) (by omega) (by omega) (HN.out.drewN q) (by omega)).mono ?_
            rintro e w3 ⟨rfl, hin3⟩
            have HN3 := Lib.hid hin3
            clear hin3
            go_wp2
            go_roundw
            case rel => exact ⟨pos + 1, _, by omega, HT.out, rfl, rfl, hd, by simp [tstep]; omega, HN3.out⟩
            case measure =>
              have e1 : w3.iterPos (w.heap.size + 1) = pos + 1 := HN3.out.iterPos
              have e2 := HIN.out.iterPos
              rw [e1, e2]
              omega
          | false =>
            go_wp2_with fail
            refine (hex_Digit.calls 1 _ d true _ HD.out).mono ?_
            rintro e w2 ⟨rfl, ⟨q, rfl⟩⟩
            go_wp2
            go_roundw
            case rel => exact ⟨pos + 1, _, by omega, HT.out, rfl, rfl, hd, by simp [tstep]; omega, HN.out.drewN q⟩
            case measure =>
              have e1 : (wn.drewN q).iterPos (w.heap.size + 1) = pos + 1 := (HN.out.drewN q).iterPos
              have e2 := HIN.out.iterPos
              rw [e1, e2]
              omega
      · have hnx := HIN.out.nextEnd hlt
        have hpe : pos = a0.size := by omega
        have hres := H.out
        have hT := HR.out
        rw [List.take_of_length_le (by simp; omega)] at hT
        rw [hT] at hres
        clear hT H HR
        cases odd with
        | true =>
          cases hres
          go_wp2_with fail
          go_ret2
          exact ⟨rfl, HIN.out.below⟩
        | false =>
          cases hres
          go_wp2_with (go_at_call 27; refine (Bld.string_in HIN.out).mono ?_; rintro e w' ⟨rfl, hb⟩)
          go_ret2
          exact ⟨rfl, hb⟩
  · cases h
end Go.Proofs.Ytpnbelgbcmkdnaa.Pr
