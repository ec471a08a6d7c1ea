/- Plain lemmas on glyph's texts: what the document's answer (gluepotref02) computes; reading what was shown; showing what was read. -/
import Derived.Test.YthhkbbhfloekiaaSpGlyph
import Derived.Test.YthhkbbhfloekiaaHGlyph
import Derived.Test.YthhkbbhfloekiaaBytes
import Derived.Test.YthhkbbhfloekiaaPr13
import Derived.Test.YthhkbbhfloekiaaPr17
import Derived.Test.YthhkbbhfloekiaaPr20
import Derived.Test.YthhkbbhfloekiaaPr10
namespace Go.Proofs.Ythhkbbhfloekiaa.Pure
open Go.RowKit Go.Proofs.Ythhkbbhfloekiaa.Pr Go.Proofs.YthhkbbhfloekiaaW.PrintWords Go.Proofs.YthhkbbhfloekiaaW.PrintLast
set_option linter.unusedSimpArgs false
set_option linter.unusedVariables false

theorem refsign_all : ∀ n : Fin 256, gluepotref02_Sign.f 2 ((n.val : Nat) : Int) = some ((signN n.val : Nat) : Int) := by decide +kernel
theorem refsign_f {k n : Nat} (hk : 2 ≤ k) (hn : n < 256) : gluepotref02_Sign.f k (n : Int) = some (signN n : Int) := by
  have := mono_up (gluepotref02_Sign.mono (n : Int)) (refsign_all ⟨n, hn⟩) (k - 2)
  rwa [show 2 + (k - 2) = k by omega] at this
theorem refbyte_loop (r : Int) : ∀ m (c : Nat) k, c + m = 256 → 301 + m ≤ k → gluepotref02_Byte.l0 k r (c : Int) = some (match byteFrom r c m with | some c => ((c : Int), true) | none => (0, false))
  | 0, c, k + 1, h, hk => by
    rw [gluepotref02_Byte.l0, if_neg (by omega)]
    rfl
  | m + 1, c, k + 1, h, hk => by
    rw [gluepotref02_Byte.l0, if_pos (by omega), show ((c : Int) % 256) = (c : Int) by omega, refsign_f (by omega) (by omega), Option.bind_some, byteFrom]
    split
    · rfl
    · rw [show wrap64 ((c : Int) + 1) = ((c + 1 : Nat) : Int) by unfold wrap64; omega]
      exact refbyte_loop r m (c + 1) k (by omega) (by omega)
theorem refbyte_f {k : Nat} (r : Int) (hk : 600 ≤ k) : gluepotref02_Byte.f k r = some (byteR r) := refbyte_loop r 256 0 k rfl (by omega)
theorem awake02 {k : Nat} (hk : 300 ≤ k) : gluepotlaw02_awake.f k = some true := by
  unfold gluepotlaw02_awake.f
  have h := sign_f hk (n := 32) (by omega)
  rw [show ((32 : Nat) : Int) = 32 from rfl, show ((signN 32 : Nat) : Int) = 288 by decide] at h
  rw [h, Option.bind_some, if_pos rfl]
  unfold glyph_Show.f
  rw [if_pos (by decide), Option.bind_some, toList_data]
  decide

/-! ### The document's Show -/
def numsB (l : List Int) : List UInt8 := l.map fun n => UInt8.ofNat n.toNat
theorem str_nums (l : List Int) : strOfNums l = ⟨(numsB l).toArray⟩ := rfl
theorem encode_sign {n : Nat} (h : n < 324) : Lib.encodeRune (n : Int) = if n < 128 then [UInt8.ofNat n] else [UInt8.ofNat (192 + n / 64), UInt8.ofNat (128 + n % 64)] := by
  unfold Lib.encodeRune
  split
  · rw [Lib.encodeRuneZ_one (by omega) (by omega)]
    simp
  · rw [Lib.encodeRuneZ_two (by omega) (by omega)]
    simp only [List.map_cons, List.map_nil]
    rw [show ((192 : Int) + (n : Int) / 64).toNat = 192 + n / 64 by omega, show ((128 : Int) + (n : Int) % 64).toNat = 128 + n % 64 by omega]
theorem hi_byte {n : Nat} (h : n < 324) : (wrap64 (192 + wrap64 (Int.tdiv (n : Int) 64)) % 256) = ((192 + n / 64 : Nat) : Int) := by
  have e : Int.tdiv (n : Int) 64 = ((n / 64 : Nat) : Int) := rfl
  have hq : n / 64 < 6 := by omega
  rw [e]
  generalize n / 64 = q at *
  unfold wrap64
  omega
theorem lo_byte (n : Nat) : (wrap64 (128 + Int.tmod (n : Int) 64) % 256) = ((128 + n % 64 : Nat) : Int) := by
  have e : Int.tmod (n : Int) 64 = ((n % 64 : Nat) : Int) := rfl
  have hq : n % 64 < 64 := by omega
  rw [e]
  generalize n % 64 = q at *
  unfold wrap64
  omega
theorem refshow_loop (s : ByteArray) (hs : s.size ≤ 500) : ∀ m (i : Nat) (x : List Int) k, i + m = s.size → 10 + m ≤ k → x.length ≤ 2 * i →
    gluepotref02_Show.l0 k s x (i : Int) = some ⟨(numsB x ++ showL (s.data.toList.drop i)).toArray⟩
  | 0, i, x, k + 1, h, hk, hx => by
    rw [gluepotref02_Show.l0, if_neg (by omega), str_nums, List.drop_of_length_le (by rw [size_list]; omega)]
    simp [showL]
  | m + 1, i, x, k + 1, h, hk, hx => by
    have hi : i < s.data.toList.length := by rw [size_list]; omega
    rw [gluepotref02_Show.l0, if_pos (by omega), if_pos (by omega), bt_list s i (by omega)]
    have hd : s.data.toList.drop i = s.data.toList.getD i 0 :: s.data.toList.drop (i + 1) := by
      rw [List.drop_eq_getElem_cons hi]
      congr 1
      rw [List.getD_eq_getElem?_getD, List.getElem?_eq_getElem hi]
      rfl
    rw [hd]
    have hc := (s.data.toList.getD i 0).toNat_lt
    rw [refsign_f (by omega) hc, Option.bind_some]
    have hsh : showL (s.data.toList.getD i 0 :: s.data.toList.drop (i + 1)) = Lib.encodeRune (signN (s.data.toList.getD i 0).toNat) ++ showL (s.data.toList.drop (i + 1)) := rfl
    have hlt := signN_lt hc
    rw [hsh, encode_sign hlt, show wrap64 ((i : Int) + 1) = ((i + 1 : Nat) : Int) by unfold wrap64; omega]
    generalize signN (s.data.toList.getD i 0).toNat = n at *
    split
    · rw [if_pos (by omega), refshow_loop s hs m (i + 1) _ k (by omega) (by omega) (by simp; omega), if_pos (by omega)]
      rw [show ((n : Int) % 256) = (n : Int) by omega]
      simp [numsB]
    · rw [Option.bind_some, if_pos (by simp; omega), refshow_loop s hs m (i + 1) _ k (by omega) (by omega) (by simp; omega), if_neg (by omega)]
      rw [show (wrap64 (192 + wrap64 (Int.tdiv (n : Int) 64)) % 256) = ((192 + n / 64 : Nat) : Int) from hi_byte hlt,
        show (wrap64 (128 + Int.tmod (n : Int) 64) % 256) = ((128 + n % 64 : Nat) : Int) from lo_byte n]
      simp only [numsB, List.map_append, List.map_cons, List.map_nil, Int.toNat_natCast, List.append_assoc]
theorem refshow_f {k : Nat} (s : ByteArray) (hs : s.size ≤ 500) (hk : 600 ≤ k) : gluepotref02_Show.f k s = some ⟨(showL s.data.toList).toArray⟩ := by
  have := refshow_loop s hs s.size 0 [] k (by omega) (by omega) (by simp)
  unfold gluepotref02_Show.f
  simpa [numsB] using this

/-! ### Reading what was shown -/
theorem decodeN_two {n b0 b1 b2 b3 : Nat} (h0 : 194 ≤ b0) (h1 : b0 ≤ 223) (hn : 1 < n) (h2 : 128 ≤ b1) (h3 : b1 ≤ 191) : Lib.decodeN n b0 b1 b2 b3 = ((b0 - 192) * 64 + (b1 - 128), 2) := by
  unfold Lib.decodeN
  rw [if_neg (by omega), if_pos (by omega), if_pos (by omega), show b0 % 32 * 64 + b1 % 64 = (b0 - 192) * 64 + (b1 - 128) by omega]
theorem decodeN_else {n b0 b1 b2 b3 : Nat} (h : 128 ≤ b0) (hb : ¬ (194 ≤ b0 ∧ b0 ≤ 223 ∧ 1 < n ∧ 128 ≤ b1 ∧ b1 ≤ 191)) : 2048 ≤ (Lib.decodeN n b0 b1 b2 b3).1 := by
  rcases Lib.decodeN_shape n b0 b1 b2 b3 with ⟨c, e⟩ | ⟨c1, c2, c3, cv, e⟩ | ⟨c1, c2, c3, c4, cv, cs, e⟩ | ⟨c1, c2, c3, c4, c5, cv, cw, e⟩ | e
  all_goals (rw [e]; simp only; omega)
theorem decodeL_one {c : UInt8} (l : List UInt8) (h : c.toNat < 128) : Lib.decodeL (c :: l) = (c.toNat, 1) := by
  rw [Lib.decodeL_N]
  unfold Lib.decodeN
  rw [if_pos (by simpa using h)]
  simp
theorem decodeL_enc {n : Nat} (h : n < 324) (l : List UInt8) : Lib.decodeL (Lib.encodeRune (n : Int) ++ l) = (n, (Lib.encodeRune (n : Int)).length) := by
  rw [encode_sign h]
  split
  · rename_i h1
    rw [List.singleton_append, decodeL_one _ (by rw [UInt8.toNat_ofNat']; omega), UInt8.toNat_ofNat']
    rw [show n % 2 ^ 8 = n by omega]
    rfl
  · rename_i h1
    rw [Lib.decodeL_N]
    have e0 : (UInt8.ofNat (192 + n / 64)).toNat = 192 + n / 64 := by rw [UInt8.toNat_ofNat']; omega
    have e1 : (UInt8.ofNat (128 + n % 64)).toNat = 128 + n % 64 := by rw [UInt8.toNat_ofNat']; omega
    simp only [List.cons_append, List.nil_append, List.getD_cons_zero, List.getD_cons_succ, e0, e1, List.length_cons]
    rw [decodeN_two (by omega) (by omega) (by omega) (by omega) (by omega), show (192 + n / 64 - 192) * 64 + (128 + n % 64 - 128) = n by omega]
    rfl
theorem encode_ne (r : Int) (l : List UInt8) : Lib.encodeRune r ++ l ≠ [] := by
  intro e
  have h := Lib.encodeRuneZ_length r
  have := congrArg List.length e
  have h1 : (Lib.encodeRune r).length = (Lib.encodeRuneZ r).length := by simp [Lib.encodeRune]
  rw [List.length_append, List.length_nil] at this
  omega
theorem readL_show : ∀ l : List UInt8, readL (showL l) = some l
  | [] => rfl
  | c :: l => by
    have hc := c.toNat_lt
    have e : showL (c :: l) = Lib.encodeRune (signN c.toNat) ++ showL l := rfl
    rw [e, readL_step (encode_ne _ _), decodeL_enc (signN_lt hc), byteN_sign hc]
    simp only [List.drop_left]
    rw [readL_show l]
    simp
theorem widthL_show : ∀ l : List UInt8, widthL (showL l) = l.length
  | [] => rfl
  | c :: l => by
    have hc := c.toNat_lt
    have e : showL (c :: l) = Lib.encodeRune (signN c.toNat) ++ showL l := rfl
    rw [e, widthL_step (encode_ne _ _), decodeL_enc (signN_lt hc)]
    simp only [List.drop_left]
    rw [widthL_show l, List.length_cons]
    omega
/-! ### Showing what was read -/
theorem read_back : ∀ m (t o : List UInt8), t.length ≤ m → readL t = some o → showL o = t ∧ widthL t = o.length
  | 0, t, o, h, hr => by
    have : t = [] := List.eq_nil_of_length_eq_zero (by omega)
    subst this
    cases hr
    exact ⟨rfl, rfl⟩
  | m + 1, t, o, h, hr => by
    by_cases hne : t = []
    · subst hne
      cases hr
      exact ⟨rfl, rfl⟩
    · have hw := Lib.decodeL_width t
      have hl : 0 < t.length := List.length_pos_iff.2 hne
      rw [readL_step hne] at hr
      cases hb : byteN ((Lib.decodeL t).1 : Int) with
      | none => rw [hb] at hr; cases hr
      | some c =>
        rw [hb] at hr
        obtain ⟨o', ho, rfl⟩ := Option.map_eq_some_iff.1 hr
        obtain ⟨i1, i2⟩ := read_back m _ o' (by rw [List.length_drop]; omega) ho
        obtain ⟨hc, hs⟩ := byteN_some hb
        have hlt := signN_lt hc
        have hen := Lib.encode_decode t hne (by omega)
        constructor
        · have e : showL (UInt8.ofNat c :: o') = Lib.encodeRune (signN (UInt8.ofNat c).toNat) ++ showL o' := rfl
          rw [e, i1, show (UInt8.ofNat c).toNat = c by rw [UInt8.toNat_ofNat']; omega, hs, hen, List.take_append_drop]
        · rw [widthL_step hne, i2, List.length_cons]
          omega
theorem width_pos (t : List UInt8) : (0 < widthL t) ↔ 0 < t.length := by
  by_cases hne : t = []
  · subst hne; simp [widthL_nil]
  · have hl : 0 < t.length := List.length_pos_iff.2 hne
    rw [widthL_step hne]
    omega
end Go.Proofs.Ythhkbbhfloekiaa.Pure
