/- The plain law of GlyphReads: the document's Read is reading by runes. -/
import Derived.Test.YthhkbbhfloekiaaSpRefGlyph
import Derived.Test.YthhkbbhfloekiaaPr21
namespace Go.Proofs.Ythhkbbhfloekiaa.Pure
open Go.RowKit Go.Proofs.Ythhkbbhfloekiaa.Pr Go.Proofs.YthhkbbhfloekiaaW.PrintWords Go.Proofs.YthhkbbhfloekiaaW.PrintLast
set_option linter.unusedSimpArgs false
set_option linter.unusedVariables false

/-- What the document's Read gives, with the bytes of x behind it and l before it. -/
def rr (x : List Int) (l : List UInt8) : ByteArray × Bool := match readL l with | some o => (⟨(numsB x ++ o).toArray⟩, true) | none => (⟨#[]⟩, false)
theorem rr_step (x : List Int) {l : List UInt8} (h : l ≠ []) {r w : Nat} (hd : Lib.decodeL l = (r, w)) :
    rr x l = match byteN (r : Int) with | some c => rr (x ++ [(c : Int)]) (l.drop w) | none => (⟨#[]⟩, false) := by
  unfold rr
  rw [readL_step h, hd]
  simp only
  cases byteN (r : Int) with
  | none => rfl
  | some c =>
    simp only
    cases readL (l.drop w) with
    | none => rfl
    | some o => simp [numsB]
theorem rr_bad (x : List Int) {l : List UInt8} (h : l ≠ []) (hb : 324 ≤ (Lib.decodeL l).1) : rr x l = (⟨#[]⟩, false) := by
  rw [rr_step x h (r := (Lib.decodeL l).1) (w := (Lib.decodeL l).2) rfl, byteN_big (by omega)]
theorem wrap_small {n : Nat} (h : n < 1000000) : wrap64 (n : Int) = (n : Int) := by unfold wrap64; omega
theorem two_num {a b : Nat} (ha : 194 ≤ a) (ha2 : a ≤ 223) (hb : 128 ≤ b) (hb2 : b ≤ 191) : wrap64 ((wrap64 ((wrap64 ((wrap64 ((a : Int) - 192)) * 64)) + (wrap64 (b : Int)))) - 128) = (((a - 192) * 64 + (b - 128) : Nat) : Int) := by
  have e1 : wrap64 ((a : Int) - 192) = ((a - 192 : Nat) : Int) := by unfold wrap64; omega
  rw [e1]
  have e2 : wrap64 (((a - 192 : Nat) : Int) * 64) = (((a - 192) * 64 : Nat) : Int) := by unfold wrap64; omega
  rw [e2, wrap_small (by omega)]
  have e3 : wrap64 ((((a - 192) * 64 : Nat) : Int) + (b : Int)) = (((a - 192) * 64 + b : Nat) : Int) := by unfold wrap64; omega
  rw [e3]
  unfold wrap64
  omega
theorem bad_l {l : List UInt8} (h : 128 ≤ (l.getD 0 0).toNat) (hb : ¬ (194 ≤ (l.getD 0 0).toNat ∧ (l.getD 0 0).toNat ≤ 223 ∧ 1 < l.length ∧ 128 ≤ (l.getD 1 0).toNat ∧ (l.getD 1 0).toNat ≤ 191)) : 324 ≤ (Lib.decodeL l).1 := by
  rw [Lib.decodeL_N]
  have := decodeN_else (b2 := (l.getD 2 0).toNat) (b3 := (l.getD 3 0).toNat) h hb
  omega
theorem j1_bad (k : Nat) (s : ByteArray) (x : List Int) (i v : Int) : gluepotref02_Read.j1 (k + 1) s x i v true = some (⟨#[]⟩, false) := by
  rw [gluepotref02_Read.j1, if_pos rfl]

theorem refread_loop (s : ByteArray) (hs : s.size ≤ 500) : ∀ m i (x : List Int) k, s.size - i ≤ m → i ≤ s.size → 700 + 2 * m ≤ k → x.length ≤ i →
    gluepotref02_Read.l0 k s x (i : Int) = some (rr x (s.data.toList.drop i))
  | 0, i, x, k + 1, h, h2, hk, hx => by
    rw [gluepotref02_Read.l0, if_neg (by omega), str_nums, List.drop_of_length_le (by rw [size_list]; omega)]
    simp [rr, readL_nil]
  | m + 1, i, x, k + 1, h, h2, hk, hx => by
    by_cases hlt : i < s.size
    · have hi : i < s.data.toList.length := by rw [size_list]; omega
      rw [gluepotref02_Read.l0, if_pos (by omega), if_pos (by omega), bt_list s i (by omega)]
      have hc := (s.data.toList.getD i 0).toNat_lt
      rw [wrap_small (by omega)]
      have hne : s.data.toList.drop i ≠ [] := by
        intro e
        have := congrArg List.length e
        rw [List.length_drop, List.length_nil] at this
        omega
      have g0 : (s.data.toList.drop i).getD 0 0 = s.data.toList.getD i 0 := by simp [List.getD_eq_getElem?_getD]
      have g1 : (s.data.toList.drop i).getD 1 0 = s.data.toList.getD (i + 1) 0 := by simp [List.getD_eq_getElem?_getD]
      have gl : (s.data.toList.drop i).length = s.size - i := by rw [List.length_drop, size_list]
      have hbad := bad_l (l := s.data.toList.drop i)
      rw [g0, g1, gl] at hbad
      have e1 : wrap64 ((i : Int) + 1) = ((i + 1 : Nat) : Int) := by unfold wrap64; omega
      have e2 : wrap64 (((i + 1 : Nat) : Int) + 1) = ((i + 2 : Nat) : Int) := by unfold wrap64; omega
      rw [e1]
      obtain ⟨k, rfl⟩ : ∃ k', k = k' + 1 := ⟨k - 1, by omega⟩
      have hdN := Lib.decodeL_N (s.data.toList.drop i)
      rw [g0, g1, gl] at hdN
      have hbt1 : i + 1 < s.size → bt s ((i + 1 : Nat) : Int) = ((s.data.toList.getD (i + 1) 0).toNat : Int) := fun hh => bt_list s (i + 1) hh
      have hc1 := (s.data.toList.getD (i + 1) 0).toNat_lt
      generalize (s.data.toList.getD i 0).toNat = a at *
      generalize (s.data.toList.getD (i + 1) 0).toNat = b at *
      by_cases ha : a < 128
      · rw [if_neg (by omega), refbyte_f _ (by omega), Option.bind_some]
        have hd : Lib.decodeL (s.data.toList.drop i) = (a, 1) := by rw [hdN]; unfold Lib.decodeN; rw [if_pos ha]
        rw [rr_step x hne hd, byteR]
        cases hb : byteN (a : Int) with
        | none => rfl
        | some c =>
          simp only
          rw [if_pos trivial, if_pos (by omega), refread_loop s hs m (i + 1) _ (k + 1) (by omega) (by omega) (by omega) (by simp; omega), List.drop_drop]
      · rw [if_pos (by omega)]
        by_cases h3 : a < 194
        · rw [if_pos (by omega), j1_bad, rr_bad x hne (hbad (by omega) (by omega))]
        · rw [if_neg (by omega)]
          by_cases h4 : a > 223
          · rw [if_pos (by omega), j1_bad, rr_bad x hne (hbad (by omega) (by omega))]
          · rw [if_neg (by omega)]
            by_cases h5 : i + 1 ≥ s.size
            · rw [if_pos (by omega), j1_bad, rr_bad x hne (hbad (by omega) (by omega))]
            · rw [if_neg (by omega), if_pos (by omega), if_pos (by omega), hbt1 (by omega)]
              by_cases h6 : b < 128
              · rw [if_pos (by omega), j1_bad, rr_bad x hne (hbad (by omega) (by omega))]
              · rw [if_neg (by omega)]
                by_cases h7 : b > 191
                · rw [show decide ((b : Int) > 191) = true from decide_eq_true (by omega), j1_bad, rr_bad x hne (hbad (by omega) (by omega))]
                · rw [show decide ((b : Int) > 191) = false from decide_eq_false (by omega), gluepotref02_Read.j1, if_neg (by simp), e1, if_pos (by omega), if_pos (by omega), hbt1 (by omega),
                    two_num (by omega) (by omega) (by omega) (by omega), refbyte_f _ (by omega), Option.bind_some, e2]
                  have hd : Lib.decodeL (s.data.toList.drop i) = ((a - 192) * 64 + (b - 128), 2) := by rw [hdN, decodeN_two (by omega) (by omega) (by omega) (by omega) (by omega)]
                  rw [rr_step x hne hd, byteR]
                  cases hb : byteN (((a - 192) * 64 + (b - 128) : Nat) : Int) with
                  | none => rfl
                  | some c =>
                    simp only
                    rw [if_pos trivial, if_pos (by omega), refread_loop s hs m (i + 2) _ k (by omega) (by omega) (by omega) (by simp; omega), List.drop_drop]
    · rw [gluepotref02_Read.l0, if_neg (by omega), str_nums, List.drop_of_length_le (by rw [size_list]; omega)]
      simp [rr, readL_nil]
theorem refread_f {k : Nat} (s : ByteArray) (hs : s.size ≤ 500) (hk : 1800 ≤ k) : gluepotref02_Read.f k s = some (rr [] s.data.toList) := by
  have := refread_loop s hs s.size 0 [] k (by omega) (by omega) (by omega) (by simp)
  simpa [gluepotref02_Read.f] using this

theorem GlyphReads (a0 : ByteArray) (_w0 : a0.size ≤ maxLen) : ∃ k, Pr.gluepotlaw02_GlyphReads.f k a0 = some true := by
  refine ⟨1800, ?_⟩
  unfold gluepotlaw02_GlyphReads.f
  rw [awake02 (by omega), Option.bind_some, if_pos rfl]
  by_cases h : (a0.size : Int) > 500
  · rw [if_pos h]
  · rw [if_neg h]
    have hw := widthL_le _ a0.data.toList (Nat.le_refl _)
    have hp := width_pos a0.data.toList
    have hb := fun o => read_back a0.data.toList.length a0.data.toList o
    rw [size_list] at hw hp
    unfold glyph_Read.f glyph_Width.f
    rw [if_pos (by omega), if_pos (by omega), refread_f _ (by omega) (by omega)]
    have hdec : (decide ((widthL a0.data.toList : Int) > 0) == decide ((a0.size : Int) > 0)) = true := by
      rw [beq_iff_eq]
      congr 1
      apply propext
      omega
    unfold rr
    cases hr : readL a0.data.toList with
    | none =>
      simp only [Option.bind_some]
      rw [if_pos trivial, if_pos (beq_self_eq_true _), if_neg (by simp), if_pos (by omega), if_pos (by omega), hdec]
    | some o =>
      obtain ⟨h1, h2⟩ := hb o (Nat.le_refl _) hr
      simp only [Option.bind_some]
      rw [if_pos (by simp [numsB]), if_pos (beq_self_eq_true _), if_pos trivial]
      unfold glyph_Show.f
      rw [if_pos (by rw [mk_size]; omega), Option.bind_some]
      simp only
      rw [h1, if_pos (by rw [mk_list]), h2, if_pos (by rw [mk_size]), if_pos (by omega), if_pos (by omega), ← h2, hdec]
end Go.Proofs.Ythhkbbhfloekiaa.Pure
