/- The contracts of glyph.Show (at most 2^45 bytes), glyph.Read and glyph.Width. -/
import Derived.Test.YthhkbbhfloekiaaBWriteByte
import Derived.Test.YthhkbbhfloekiaaBWriteRune
import Derived.Test.YthhkbbhfloekiaaSpGlyph
import Derived.Lib.ConvBytes
import Derived.Laws.RangeAny
namespace Go.Proofs.Ythhkbbhfloekiaa.Pr
open Go.RowKit Go.Proofs.Ythhkbbhfloekiaa.Bs Go.Proofs.YthhkbbhfloekiaaW.PrintWords Go.Proofs.YthhkbbhfloekiaaW.PrintLast Go.Proofs.YthhkbbhfloekiaaW.PrintMore
set_option linter.unusedVariables false
set_option linter.unusedSimpArgs false

theorem take_succ_getD (l : List UInt8) (k : Nat) (h : k < l.length) : l.take (k + 1) = l.take k ++ [l.getD k 0] := by
  rw [List.take_succ_eq_append_getElem h, List.getD_eq_getElem?_getD, List.getElem?_eq_getElem h]
  rfl
theorem showL_snoc (l : List UInt8) (c : UInt8) : showL (l ++ [c]) = showL l ++ Lib.encodeRune (signN c.toNat) := by simp [showL]
theorem encode_len (r : Int) : (Lib.encodeRune r).length ≤ 4 := by
  have := Lib.encodeRuneZ_length r
  simp [Lib.encodeRune]
  omega
theorem showL_length : ∀ l : List UInt8, (showL l).length ≤ 4 * l.length
  | [] => Nat.le_refl _
  | c :: l => by
    have h := showL_length l
    have h2 := encode_len (signN c.toNat)
    show (Lib.encodeRune (signN c.toNat) ++ showL l).length ≤ _
    rw [List.length_append, List.length_cons]
    omega

set_option maxHeartbeats 1000000 in
set_option maxRecDepth 100000 in
theorem glyph_Show.calls (a0 : ByteArray) (r : ByteArray) (w : World) (h : glyph_Show.f a0 = some r) :
    Calls Try.prog 11 #[.string a0] w fun e w' => e = .returned (.string r) ∧ Below w.heap.size w w' := by
  unfold glyph_Show.f at h
  split at h
  · rename_i hsz
    cases h
    have hcv := fun W => Lib.run_convert_string_bytes (P := Try.prog) W 9 36 5 a0 Try.underlying9 Try.underlying36 Try.underlying5
    obtain ⟨o, hbyte, hIn⟩ := Bld.begin_bytesR w a0
    have HI := Lib.hid hIn
    have HB := Lib.hid hbyte
    clear hIn hbyte
    go_enter Try.func11, Try.ntmps11
    go_wp2
    generalize Lib.bytesWorld (w.alloc (.cells #[.pointer none, .slice none 0 0] 38)) 5 a0 = w1 at *
    generalize grownCap (w.alloc (.cells #[.pointer none, .slice none 0 0] 38)) a0.size 0 5 = cap at *
    clear hcv
    go_loopw [9] (fun i wr => ∃ k : Nat, k ≤ a0.size ∧ i = .int .i64 k ∧ Bld.RIn w w.heap.size (w.heap.size + 1) o (showL (a0.data.toList.take k)) wr) (fun i _ => a0.size - (intOf i).toNat)
    case atStart => exact ⟨0, Nat.zero_le _, rfl, HI.out⟩
    case round =>
      obtain ⟨k, hk, rfl, hin⟩ := hrel
      have HIN := Lib.hid hin
      clear hin HI
      by_cases hlt : k < a0.size
      · have hc := HB.out wr HIN.out.toB.block k hlt
        have hsn : showL (a0.data.toList.take (k + 1)) = showL (a0.data.toList.take k) ++ Lib.encodeRune (signN (a0.data.toList.getD k 0).toNat) := by
          rw [take_succ_getD _ _ (by simpa using hlt), showL_snoc]
        have hlen : (showL (a0.data.toList.take k)).length ≤ 4 * k := by
          have := showL_length (a0.data.toList.take k)
          rwa [List.length_take, Nat.min_eq_left (by simpa using hk)] at this
        generalize a0.data.toList.getD k 0 = x at hc hsn
        have HS := Lib.hid hsn
        have HL := Lib.hid hlen
        clear hsn hlen
        have hx := x.toNat_lt
        have HF := Lib.hid (sign_f (Nat.le_refl 300) hx)
        have hs := signN_lt hx
        generalize signN x.toNat = sg at *
        go_wp2_with fail
        refine (glyph_Sign.calls 300 _ _ _ HF.out).mono ?_
        rintro e w2 ⟨rfl, ⟨q, rfl⟩⟩
        go_wp2_with fail
        refine (Bld.writeRune_in _ (by omega) (by omega) (HIN.out.drewN q) (by have := HL.out; omega)).mono ?_
        rintro e w3 ⟨rfl, hin2⟩
        have HIN2 := Lib.hid hin2
        clear hin2
        go_wp2
        go_roundw
        case rel =>
          refine ⟨k + 1, by omega, by go_num, ?_⟩
          rw [HS.out]
          exact HIN2.out
        case measure => simp [intOf]; omega
      · go_wp2_with (go_at_call 18; refine (Bld.string_in HIN.out.toB).mono ?_; rintro e w' ⟨rfl, hb⟩)
        go_ret
        have hk' : k = a0.size := by omega
        subst hk'
        refine ⟨?_, hb⟩
        rw [List.take_of_length_le (by simp)]
        rfl
  · cases h

/-! ### Read -/
/-- What holds of the walk behind pos bytes. -/
def RRel (w : World) (s : ByteArray) (pos : Nat) (out : List UInt8) (wr : World) : Prop :=
  pos ≤ s.size ∧ readL s.data.toList = (readL (s.data.toList.drop pos)).map (out ++ ·) ∧ out.length ≤ pos ∧ Bld.BIn w w.heap.size (w.heap.size + 1) (.stringIter s pos) out wr

set_option maxHeartbeats 2000000 in
set_option maxRecDepth 100000 in
theorem glyph_Read.calls (a0 : ByteArray) (r1 : ByteArray) (r2 : Bool) (w : World) (h : glyph_Read.f a0 = some (r1, r2)) :
    Calls Try.prog 12 #[.string a0] w fun e w' => e = .returned (.tuple #[.string r1, .bool r2]) ∧ Below w.heap.size w w' := by
  unfold glyph_Read.f at h
  split at h
  · rename_i hsz
    have H := Lib.hid h
    clear h
    have HI := Lib.hid (Bld.begin_iter w a0)
    go_enter Try.func12, Try.ntmps12
    go_wp2
    go_loopw [] (fun wr => ∃ pos out, RRel w a0 pos out wr) (fun wr => a0.size - wr.iterPos (w.heap.size + 1))
    case atStart => exact ⟨0, [], Nat.zero_le _, by simp, by simp, HI.out⟩
    case round =>
      obtain ⟨pos, out, hpos, hrun, hol, hin⟩ := hrel
      have HIN := Lib.hid hin
      have HR := Lib.hid hrun
      clear hin hrun HI
      by_cases hlt : pos < a0.size
      · obtain ⟨wn, hnx, hin⟩ := HIN.out.next (by omega) hlt
        have hd31 := decode_le a0 pos
        have hne : a0.data.toList.drop pos ≠ [] := by
          intro e
          have := congrArg List.length e
          simp at this
          have h2 : a0.data.size = a0.size := rfl
          omega
        have hst := readL_step hne
        have hle := Lib.decodeL_le _ hne
        have hw1 := Lib.decodeL_width (a0.data.toList.drop pos)
        rw [List.drop_drop] at hst
        rw [← decode_at_list] at hst hle hw1
        rw [List.length_drop, Array.length_toList, show a0.data.size = a0.size from rfl] at hle
        have HN := Lib.hid hin
        clear hin hne
        have HB := Lib.hid (byte_f ((Utf8.decode a0 pos).1 : Int) (Nat.le_refl 600))
        generalize (Utf8.decode a0 pos).1 = n at *
        generalize (Utf8.decode a0 pos).2 = wd at *
        have HST := Lib.hid hst
        clear hst
        cases hb : byteN (n : Int) with
        | none =>
          have hB := HB.out
          have hS := HST.out
          rw [hb] at hS
          rw [byteR, hb] at hB
          have hres := H.out
          rw [HR.out, hS] at hres
          cases hres
          clear hS
          have HB2 := Lib.hid hB
          clear hB
          go_wp2_with fail
          refine (glyph_Byte.calls 600 _ 0 false _ HB2.out).mono ?_
          rintro e w2 ⟨rfl, ⟨q, rfl⟩⟩
          go_wp2
          go_ret2
          exact ⟨rfl, HN.out.below.trans (pw_below_drewN (Below.refl _ _) q)⟩
        | some d =>
          have hd := (byteN_some hb).1
          have hB := HB.out
          have hS := HST.out
          rw [hb] at hS
          rw [byteR, hb] at hB
          have HB2 := Lib.hid hB
          have HS2 := Lib.hid hS
          clear hB hS
          go_wp2_with fail
          refine (glyph_Byte.calls 600 _ d true _ HB2.out).mono ?_
          rintro e w2 ⟨rfl, ⟨q, rfl⟩⟩
          go_wp2_with fail
          refine (Bld.writeByte_num _ d rfl (by omega) (HN.out.drewN q) (by omega)).mono ?_
          rintro e w3 ⟨rfl, hin3⟩
          have HIN3 := Lib.hid hin3
          clear hin3
          go_wp2
          go_roundw
          case rel =>
            refine ⟨pos + wd, out ++ [UInt8.ofNat d], by omega, ?_, by simp; omega, HIN3.out⟩
            rw [HR.out, HS2.out, Option.map_map]
            congr 1
            funext o
            simp
          case measure =>
            have e1 : w3.iterPos (w.heap.size + 1) = pos + wd := HIN3.out.iterPos
            have e2 := HIN.out.iterPos
            rw [e1, e2]
            omega
      · have hnx := HIN.out.nextEnd hlt
        have hpe : pos = a0.size := by omega
        have hres := H.out
        have hT := HR.out
        rw [List.drop_of_length_le (by simp; omega), readL_nil] at hT
        rw [hT] at hres
        clear hT H HR
        cases hres
        go_wp2_with (go_at_call 18; refine (Bld.string_in HIN.out).mono ?_; rintro e w' ⟨rfl, hb⟩)
        go_ret2
        exact ⟨by simp, hb⟩
  · cases h

/-! ### Width -/
set_option maxHeartbeats 2000000 in
set_option maxRecDepth 100000 in
theorem glyph_Width.calls (a0 : ByteArray) (r : Int) (w : World) (h : glyph_Width.f a0 = some r) :
    Calls Try.prog 14 #[.string a0] w fun e w' => e = .returned (.int .i64 r) ∧ Below w.heap.size w w' := by
  unfold glyph_Width.f at h
  split at h
  · rename_i hsz
    cases h
    go_enter Try.func14, Try.ntmps14
    go_wp2
    go_loopw [3] (fun v wr => ∃ pos, pos ≤ a0.size ∧ v = .int .i64 ((widthL a0.data.toList : Int) - widthL (a0.data.toList.drop pos)) ∧ widthL (a0.data.toList.drop pos) ≤ widthL a0.data.toList ∧ wr = w.iter a0 pos) (fun _ wr => a0.size - wr.iterPos w.heap.size)
    case atStart => exact ⟨0, Nat.zero_le _, by simp, by simp, rfl⟩
    case round =>
      obtain ⟨pos, hpos, rfl, hle, rfl⟩ := hrel
      have hsz2 := widthL_le _ a0.data.toList (Nat.le_refl _)
      rw [Array.length_toList, show a0.data.size = a0.size from rfl] at hsz2
      by_cases hlt : pos < a0.size
      · have hnx := fun ty => run_next_any (P := Try.prog) w a0 pos ty hlt
        have hne : a0.data.toList.drop pos ≠ [] := by
          intro e
          have := congrArg List.length e
          simp at this
          have h2 : a0.data.size = a0.size := rfl
          omega
        have hst := widthL_step hne
        have hdl := Lib.decodeL_le _ hne
        have hw1 := Lib.decodeL_width (a0.data.toList.drop pos)
        rw [List.drop_drop] at hst
        rw [← decode_at_list] at hst hdl hw1
        rw [List.length_drop, Array.length_toList, show a0.data.size = a0.size from rfl] at hdl
        generalize (Utf8.decode a0 pos).1 = n at *
        generalize (Utf8.decode a0 pos).2 = wd at *
        go_wp2
        go_roundw
        case rel =>
          refine ⟨pos + wd, by omega, ?_, by omega, rfl⟩
          congr 1
          omega
        case measure => simp; omega
      · have hnx := fun ty => run_next_end (P := Try.prog) w a0 pos ty hlt
        go_wp2
        go_ret
        rw [List.drop_of_length_le (by simp; omega), widthL_nil]
        exact ⟨by simp, (Below.refl _ _).alloc (Nat.le_refl _) _⟩
  · cases h
end Go.Proofs.Ythhkbbhfloekiaa.Pr
