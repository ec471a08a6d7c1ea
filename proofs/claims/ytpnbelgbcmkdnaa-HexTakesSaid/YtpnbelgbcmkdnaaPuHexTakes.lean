/- The plain law of HexTakes: the printed function of the law answers true at every text. -/
import Derived.Test.YtpnbelgbcmkdnaaSpHex
import Derived.Test.YtpnbelgbcmkdnaaBytes
import Derived.Test.YtpnbelgbcmkdnaaPr23
import Derived.Test.YtpnbelgbcmkdnaaPr24
namespace Go.Proofs.Ytpnbelgbcmkdnaa.Pure
open Go.RowKit Go.Proofs.Ytpnbelgbcmkdnaa.Pr Go.Proofs.YtpnbelgbcmkdnaaW.PrintWords Go.Proofs.YtpnbelgbcmkdnaaW.PrintLast
set_option linter.unusedSimpArgs false

/-- The text of digits, two by two. -/
def takeSpec : List UInt8 → Option (List UInt8)
  | [] => some []
  | [_] => none
  | a :: b :: r =>
    match hexVal a.toNat, hexVal b.toNat with
    | some x, some y => (takeSpec r).map (UInt8.ofNat (16 * x + y) :: ·)
    | _, _ => none

theorem fold_spec : ∀ (l : List UInt8) (st : TS), st.odd = false →
    match takeSpec l with
    | some t => ∃ h, l.foldlM (fun st c => (hexVal c.toNat).map (tstep st)) st = some ⟨h, false, st.out ++ t⟩
    | none => ∀ st', l.foldlM (fun st c => (hexVal c.toNat).map (tstep st)) st = some st' → st'.odd = true
  | [], st, h => by
    obtain ⟨a, b, c⟩ := st
    simp only at h
    subst h
    exact ⟨a, by simp⟩
  | [c], st, h => by
    simp only [takeSpec]
    intro st' hs
    cases hv : hexVal c.toNat with
    | none => simp [hv] at hs
    | some d =>
      simp [hv, tstep, h] at hs
      rw [← hs]
  | a :: b :: r, st, h => by
    simp only [takeSpec]
    cases hx : hexVal a.toNat with
    | none => simp only; intro st' hs; simp [hx] at hs
    | some x =>
      cases hy : hexVal b.toNat with
      | none => simp only; intro st' hs; simp [hx, hy] at hs
      | some y =>
        have ht : tstep (tstep st x) y = ⟨y, false, st.out ++ [UInt8.ofNat (16 * x + y)]⟩ := by simp [tstep, h]
        have ih := fold_spec r ⟨y, false, st.out ++ [UInt8.ofNat (16 * x + y)]⟩ rfl
        simp only [List.foldlM_cons, hx, hy, Option.map_some, Option.bind_eq_bind, Option.bind_some, ht]
        cases hr : takeSpec r with
        | none =>
          rw [hr] at ih
          simpa using ih
        | some t =>
          rw [hr] at ih
          obtain ⟨h', ih⟩ := ih
          simp only [Option.map_some]
          exact ⟨h', by rw [ih]; simp⟩

theorem hex_Take_eq (a0 : ByteArray) (h : a0.size ≤ 1000) : hex_Take.f a0 = some (match takeSpec a0.data.toList with | some t => (⟨t.toArray⟩, true) | none => (⟨#[]⟩, false)) := by
  have hs := fold_spec a0.data.toList ⟨0, false, []⟩ rfl
  unfold hex_Take.f
  rw [if_pos (by omega)]
  cases ht : takeSpec a0.data.toList with
  | some t =>
    rw [ht] at hs
    obtain ⟨h', hs⟩ := hs
    have : trun a0.data.toList = some ⟨h', false, t⟩ := by simpa [trun] using hs
    rw [this]
    simp
  | none =>
    rw [ht] at hs
    cases hr : trun a0.data.toList with
    | none => rfl
    | some st =>
      have := hs st hr
      simp [this]

theorem takeSpec_odd : ∀ (l : List UInt8), l.length % 2 = 1 → takeSpec l = none
  | [], h => by simp at h
  | [_], _ => rfl
  | a :: b :: r, h => by
    have := takeSpec_odd r (by simp at h; omega)
    simp only [takeSpec, this]
    cases hexVal a.toNat <;> cases hexVal b.toNat <;> rfl

theorem wrap_a (x : Nat) (h : x < 16) : wrap64 (16 * (x : Int)) = 16 * (x : Int) := by unfold wrap64; omega
theorem wrap_b (x y : Nat) (h : x < 16) (h' : y < 16) : wrap64 (16 * (x : Int) + y) % 256 = ((16 * x + y : Nat) : Int) := by unfold wrap64; omega
theorem wrap_c (i : Nat) (h : i ≤ 1000) : wrap64 ((i : Int) + 2) = ((i + 2 : Nat) : Int) := by unfold wrap64; omega
theorem wrap_d (i : Nat) (h : i ≤ 1000) : wrap64 ((i : Int) + 1) = ((i + 1 : Nat) : Int) := by unfold wrap64; omega

/-- One round of gluepotref01.Take. -/
theorem ref_Take_step (s : ByteArray) (hs : s.size ≤ 1000) (k i : Nat) (hk : 1 ≤ k) (h1 : i + 1 < s.size) (x4 : List Int) (hx : x4.length ≤ 1000) (a b : UInt8) (ha : bt s (i : Int) = a.toNat) (hb : bt s ((i + 1 : Nat) : Int) = b.toNat) :
    gluepotref01_Take.l0 (k + 1) s x4 (i : Int) = match hexVal a.toNat, hexVal b.toNat with
      | some x, some y => gluepotref01_Take.l0 k s (x4 ++ [((16 * x + y : Nat) : Int)]) ((i + 2 : Nat) : Int)
      | _, _ => some (⟨#[]⟩, false) := by
  simp only [gluepotref01_Take.l0]
  rw [if_pos (by omega), if_pos (by omega), ha, ref01_Digit_eq hk _ (by have := a.toNat_lt; omega)]
  rw [Option.bind_some]
  rw [wrap_d i (by omega), if_pos (by omega), if_pos (by omega), hb, ref01_Digit_eq hk _ (by have := b.toNat_lt; omega)]
  rw [Option.bind_some]
  cases hva : hexVal a.toNat with
  | none => simp
  | some x =>
    have hxl := hexVal_lt hva
    cases hvb : hexVal b.toNat with
    | none =>
      simp only
      rw [if_neg (by omega)]
      simp
    | some y =>
      have hyl := hexVal_lt hvb
      simp only
      rw [if_neg (by omega), if_neg (by omega), if_pos (by omega), wrap_a x hxl, wrap_b x y hxl hyl, wrap_c i (by omega)]

theorem two_drop (l : List UInt8) (i : Nat) (h : i + 1 < l.length) : l.drop i = l.getD i 0 :: l.getD (i + 1) 0 :: l.drop (i + 2) := by
  rw [List.drop_eq_getElem_cons (by omega), List.drop_eq_getElem_cons (by omega)]
  simp only [List.getD_eq_getElem?_getD, List.getElem?_eq_getElem (show i < l.length by omega), List.getElem?_eq_getElem h, Option.getD_some]

theorem nums_snoc (x4 : List Int) (n : Nat) (t : List UInt8) : ((x4 ++ [(n : Int)]).map fun n => UInt8.ofNat n.toNat) ++ t = (x4.map fun n => UInt8.ofNat n.toNat) ++ (UInt8.ofNat n :: t) := by
  rw [List.map_append, List.append_assoc]
  rfl

theorem ref_Take_l0 (s : ByteArray) (hs : s.size ≤ 1000) (d : Nat) : ∀ (k i : Nat) (x4 : List Int), s.size = i + 2 * d → d + 1 < k → x4.length ≤ i →
    gluepotref01_Take.l0 k s x4 (i : Int) = some (match takeSpec (s.data.toList.drop i) with | some t => (⟨((x4.map fun n => UInt8.ofNat n.toNat) ++ t).toArray⟩, true) | none => (⟨#[]⟩, false)) := by
  induction d with
  | zero =>
    intro k i x4 hd hk hx
    obtain ⟨k, rfl⟩ : ∃ m, k = m + 1 := ⟨k - 1, by omega⟩
    simp only [gluepotref01_Take.l0]
    rw [if_neg (by omega), List.drop_eq_nil_of_le (by rw [size_list]; omega)]
    simp [takeSpec, strOfNums]
  | succ d ih =>
    intro k i x4 hd hk hx
    obtain ⟨k, rfl⟩ : ∃ m, k = m + 1 := ⟨k - 1, by omega⟩
    rw [ref_Take_step s hs k i (by omega) (by omega) x4 (by omega) _ _ (bt_list s i (by omega)) (bt_list s (i + 1) (by omega)), two_drop _ _ (by rw [size_list]; omega)]
    generalize (s.data.toList.getD i 0) = a
    generalize (s.data.toList.getD (i + 1) 0) = b
    simp only [takeSpec]
    cases hva : hexVal a.toNat with
    | none => simp
    | some x =>
      cases hvb : hexVal b.toNat with
      | none => simp
      | some y =>
        simp only
        rw [ih k (i + 2) _ (by omega) (by omega) (by rw [List.length_append]; simp only [List.length_cons, List.length_nil]; omega)]
        cases takeSpec (s.data.toList.drop (i + 2)) with
        | none => rfl
        | some t =>
          simp only [Option.map_some]
          rw [nums_snoc]

theorem ref_Take_eq (s : ByteArray) (hs : s.size ≤ 1000) {k : Nat} (hk : s.size + 2 ≤ k) : gluepotref01_Take.f k s = some (match takeSpec s.data.toList with | some t => (⟨t.toArray⟩, true) | none => (⟨#[]⟩, false)) := by
  unfold gluepotref01_Take.f
  by_cases h : s.size % 2 = 0
  · rw [if_pos (by omega)]
    have := ref_Take_l0 s hs (s.size / 2) k 0 [] (by omega) (by omega) (by simp)
    simpa using this
  · rw [if_neg (by omega), takeSpec_odd _ (by rw [size_list]; omega)]

theorem dig_of_val : ∀ a : Fin 256, ∀ x : Fin 16, hexVal a.val = some x.val → hexDig x.val = UInt8.ofNat a.val := by decide +kernel
theorem dig_val {a : UInt8} {x : Nat} (h : hexVal a.toNat = some x) : hexDig x = a := by
  have := dig_of_val ⟨a.toNat, by have := a.toNat_lt; omega⟩ ⟨x, hexVal_lt h⟩ h
  simpa using this
theorem put_take : ∀ (l t : List UInt8), takeSpec l = some t → hexPut t = l
  | [], t, h => by simp [takeSpec] at h; subst h; rfl
  | [_], t, h => by simp [takeSpec] at h
  | a :: b :: r, t, h => by
    simp only [takeSpec] at h
    cases hx : hexVal a.toNat with
    | none => simp [hx] at h
    | some x =>
      cases hy : hexVal b.toNat with
      | none => simp [hx, hy] at h
      | some y =>
        have hxl := hexVal_lt hx
        have hyl := hexVal_lt hy
        simp only [hx, hy, Option.map_eq_some_iff] at h
        obtain ⟨u, hu, rfl⟩ := h
        have ih := put_take r u hu
        have hn : (UInt8.ofNat (16 * x + y)).toNat = 16 * x + y := by rw [UInt8.toNat_ofNat']; omega
        show hexDig ((UInt8.ofNat (16 * x + y)).toNat / 16) :: hexDig ((UInt8.ofNat (16 * x + y)).toNat % 16) :: hexPut u = _
        rw [hn, show (16 * x + y) / 16 = x from by omega, show (16 * x + y) % 16 = y from by omega, dig_val hx, dig_val hy, ih]

theorem takeSpec_length : ∀ (l t : List UInt8), takeSpec l = some t → t.length ≤ l.length := fun l t h => by
  have := put_take l t h
  have h2 := hexPut_length t
  rw [this] at h2
  omega

theorem HexTakes (a0 : ByteArray) (_w0 : a0.size ≤ maxLen) : ∃ k, Pr.gluepotlaw01_HexTakes.f k a0 = some true := by
  refine ⟨a0.size + 2, ?_⟩
  unfold gluepotlaw01_HexTakes.f
  rw [awake01]
  simp only [Option.bind_some, if_true]
  by_cases h : (a0.size : Int) > 1000
  · rw [if_pos h]
  · rw [if_neg h, hex_Take_eq a0 (by omega), ref_Take_eq a0 (by omega) (Nat.le_refl _)]
    simp only [Option.bind_some]
    cases ht : takeSpec a0.data.toList with
    | none => simp
    | some t =>
      have hp := put_take _ _ ht
      have hl := takeSpec_length _ _ ht
      rw [size_list] at hl
      unfold hex_Put.f
      simp only [mk_size]
      rw [if_pos (show t.length * 2 ≤ 140737488355328 by omega)]
      simp [toList_data, hp]

end Go.Proofs.Ytpnbelgbcmkdnaa.Pure
