/- What the glyph functions are: signs by number, texts as lists of bytes (plain Lean), and the printed Sign, Byte, seen as these. -/
import Derived.Test.YthhkbbhfloekiaaPr11
import Derived.Test.YthhkbbhfloekiaaPr2
import Derived.Lib.MapLaws
import Derived.Lib.RuneBytes
namespace Go.Proofs.Ythhkbbhfloekiaa.Pr
open Go.RowKit Go.Proofs.YthhkbbhfloekiaaW.PrintWords
set_option linter.unusedVariables false
set_option linter.unusedSimpArgs false

def signN (n : Nat) : Nat := if 33 ≤ n ∧ n ≤ 126 ∨ 161 ≤ n ∧ n ≤ 172 ∨ 174 ≤ n then n else if n ≤ 32 then 256 + n else if n ≤ 160 then 162 + n else 323
def byteFrom (r : Int) : Nat → Nat → Option Nat
  | _, 0 => none
  | c, m + 1 => if (signN c : Int) = r then some c else byteFrom r (c + 1) m
def byteN (r : Int) : Option Nat := byteFrom r 0 256
def byteR (r : Int) : Int × Bool := match byteN r with | some c => ((c : Int), true) | none => (0, false)

theorem sign_all : ∀ n : Fin 256, glyph_Sign.f 300 ((n.val : Nat) : Int) = some ((signN n.val : Nat) : Int) := by decide +kernel
theorem mono_up {α : Type} {f : Nat → Option α} (h : ∀ k, LeO (f k) (f (k + 1))) {k : Nat} {r : α} (hk : f k = some r) : ∀ m, f (k + m) = some r
  | 0 => hk
  | m + 1 => h _ _ (mono_up h hk m)
theorem sign_f {k n : Nat} (hk : 300 ≤ k) (hn : n < 256) : glyph_Sign.f k (n : Int) = some (signN n : Int) := by
  have := mono_up (glyph_Sign.mono (n : Int)) (sign_all ⟨n, hn⟩) (k - 300)
  rwa [show 300 + (k - 300) = k by omega] at this
theorem signN_lt {n : Nat} (h : n < 256) : signN n < 324 := by unfold signN; split <;> (try split) <;> (try split) <;> omega
theorem byte_loop (r : Int) : ∀ m (c : Nat) k, c + m = 256 → 301 + m ≤ k → glyph_Byte.l0 k r (c : Int) = some (match byteFrom r c m with | some c => ((c : Int), true) | none => (0, false))
  | 0, c, k + 1, h, hk => by
    rw [glyph_Byte.l0, if_neg (by omega)]
    rfl
  | m + 1, c, k + 1, h, hk => by
    rw [glyph_Byte.l0, if_pos (by omega), show ((c : Int) % 256) = (c : Int) by omega, sign_f (by omega) (by omega), Option.bind_some, byteFrom]
    split
    · rfl
    · rw [show wrap64 ((c : Int) + 1) = ((c + 1 : Nat) : Int) by unfold wrap64; omega]
      exact byte_loop r m (c + 1) k (by omega) (by omega)
theorem byte_f {k : Nat} (r : Int) (hk : 600 ≤ k) : glyph_Byte.f k r = some (byteR r) := byte_loop r 256 0 k rfl (by omega)
theorem byteFrom_some {r : Int} : ∀ m c d, byteFrom r c m = some d → c ≤ d ∧ d < c + m ∧ (signN d : Int) = r
  | 0, _, _, h => by cases h
  | m + 1, c, d, h => by
    rw [byteFrom] at h
    split at h
    · cases h
      exact ⟨Nat.le_refl _, by omega, by assumption⟩
    · have := byteFrom_some m (c + 1) d h
      omega
theorem byteFrom_none {r : Int} : ∀ m c, byteFrom r c m = none → ∀ d, c ≤ d → d < c + m → (signN d : Int) ≠ r
  | 0, c, h, d, h1, h2 => by omega
  | m + 1, c, h, d, h1, h2 => by
    rw [byteFrom] at h
    split at h
    · cases h
    · rcases Nat.eq_or_lt_of_le h1 with rfl | h3
      · assumption
      · exact byteFrom_none m (c + 1) h d (by omega) (by omega)
theorem signN_inj {m n : Nat} (hm : m < 256) (hn : n < 256) (h : signN m = signN n) : m = n := by
  unfold signN at h
  repeat' split at h
  all_goals omega
theorem byteN_sign {n : Nat} (hn : n < 256) : byteN (signN n : Int) = some n := by
  cases h : byteN (signN n : Int) with
  | none => exact absurd rfl (byteFrom_none 256 0 h n (Nat.zero_le _) (by omega))
  | some d =>
    obtain ⟨_, h2, h3⟩ := byteFrom_some 256 0 d h
    have e : d = n := signN_inj (by omega) hn (by omega)
    rw [e]
theorem byteN_some {r : Int} {d : Nat} (h : byteN r = some d) : d < 256 ∧ (signN d : Int) = r := by
  obtain ⟨_, h2, h3⟩ := byteFrom_some 256 0 d h
  exact ⟨by omega, h3⟩
theorem byteN_big {r : Int} (h : 324 ≤ r) : byteN r = none := by
  cases hb : byteN r with
  | none => rfl
  | some d =>
    obtain ⟨h1, h2⟩ := byteN_some hb
    have := signN_lt h1
    omega

/-! ### Texts -/
def showL (l : List UInt8) : List UInt8 := l.flatMap fun c => Lib.encodeRune (signN c.toNat)
def readD : Nat → List UInt8 → Option (List UInt8)
  | 0, _ => some []
  | f + 1, l => if l = [] then some [] else match byteN ((Lib.decodeL l).1 : Int) with
    | some c => (readD f (l.drop (Lib.decodeL l).2)).map fun o => UInt8.ofNat c :: o
    | none => none
def widthD : Nat → List UInt8 → Nat
  | 0, _ => 0
  | f + 1, l => if l = [] then 0 else 1 + widthD f (l.drop (Lib.decodeL l).2)
def readL (l : List UInt8) : Option (List UInt8) := readD l.length l
def widthL (l : List UInt8) : Nat := widthD l.length l
theorem readD_nil (f : Nat) : readD f [] = some [] := by cases f <;> simp [readD]
theorem widthD_nil (f : Nat) : widthD f [] = 0 := by cases f <;> simp [widthD]
theorem readD_fuel : ∀ (n m : Nat) (l : List UInt8), l.length ≤ n → l.length ≤ m → readD n l = readD m l
  | 0, m, l, hn, _ => by
    have : l = [] := List.eq_nil_of_length_eq_zero (by omega)
    subst this
    rw [readD_nil, readD_nil]
  | n + 1, 0, l, _, hm => by
    have : l = [] := List.eq_nil_of_length_eq_zero (by omega)
    subst this
    rw [readD_nil, readD_nil]
  | n + 1, m + 1, l, hn, hm => by
    by_cases hne : l = []
    · subst hne
      rw [readD_nil, readD_nil]
    · have hw := Lib.decodeL_width l
      have hl : 0 < l.length := List.length_pos_iff.2 hne
      simp only [readD, if_neg hne]
      rw [readD_fuel n m _ (by rw [List.length_drop]; omega) (by rw [List.length_drop]; omega)]
theorem widthD_fuel : ∀ (n m : Nat) (l : List UInt8), l.length ≤ n → l.length ≤ m → widthD n l = widthD m l
  | 0, m, l, hn, _ => by
    have : l = [] := List.eq_nil_of_length_eq_zero (by omega)
    subst this
    rw [widthD_nil, widthD_nil]
  | n + 1, 0, l, _, hm => by
    have : l = [] := List.eq_nil_of_length_eq_zero (by omega)
    subst this
    rw [widthD_nil, widthD_nil]
  | n + 1, m + 1, l, hn, hm => by
    by_cases hne : l = []
    · subst hne
      rw [widthD_nil, widthD_nil]
    · have hw := Lib.decodeL_width l
      have hl : 0 < l.length := List.length_pos_iff.2 hne
      simp only [widthD, if_neg hne]
      rw [widthD_fuel n m _ (by rw [List.length_drop]; omega) (by rw [List.length_drop]; omega)]
theorem readL_step {l : List UInt8} (h : l ≠ []) : readL l = match byteN ((Lib.decodeL l).1 : Int) with
    | some c => (readL (l.drop (Lib.decodeL l).2)).map fun o => UInt8.ofNat c :: o
    | none => none := by
  have hw := Lib.decodeL_width l
  have hl : 0 < l.length := List.length_pos_iff.2 h
  unfold readL
  rw [show l.length = (l.length - 1) + 1 by omega, readD, if_neg h, readD_fuel (l.length - 1) (l.drop (Lib.decodeL l).2).length _ (by rw [List.length_drop]; omega) (Nat.le_refl _)]
theorem widthL_step {l : List UInt8} (h : l ≠ []) : widthL l = 1 + widthL (l.drop (Lib.decodeL l).2) := by
  have hw := Lib.decodeL_width l
  have hl : 0 < l.length := List.length_pos_iff.2 h
  unfold widthL
  rw [show l.length = (l.length - 1) + 1 by omega, widthD, if_neg h, widthD_fuel (l.length - 1) (l.drop (Lib.decodeL l).2).length _ (by rw [List.length_drop]; omega) (Nat.le_refl _)]
theorem readL_nil : readL [] = some [] := rfl
theorem widthL_nil : widthL [] = 0 := rfl
theorem widthL_le : ∀ n (l : List UInt8), l.length ≤ n → widthL l ≤ l.length
  | 0, l, h => by
    have : l = [] := List.eq_nil_of_length_eq_zero (by omega)
    subst this
    exact Nat.le_refl _
  | n + 1, l, h => by
    by_cases hne : l = []
    · subst hne; exact Nat.le_refl _
    · have hw := Lib.decodeL_width l
      have hl : 0 < l.length := List.length_pos_iff.2 hne
      have hle := Lib.decodeL_le l hne
      have := widthL_le n (l.drop (Lib.decodeL l).2) (by rw [List.length_drop]; omega)
      rw [List.length_drop] at this
      rw [widthL_step hne]
      omega
theorem decode_at_list (s : ByteArray) (pos : Nat) : Utf8.decode s pos = Lib.decodeL (s.data.toList.drop pos) := by
  rw [Lib.decode_N, Lib.decodeL_N]
  simp only [List.getD_eq_getElem?_getD, List.getElem?_drop, List.length_drop, Nat.add_zero]

def glyph_Show.f (a0 : ByteArray) : Option ByteArray := if a0.size * 4 + 4 ≤ 140737488355328 then some ⟨(showL a0.data.toList).toArray⟩ else none
def glyph_Read.f (a0 : ByteArray) : Option (ByteArray × Bool) :=
  if a0.size ≤ 140737488355328 then
    match readL a0.data.toList with
    | some o => some (⟨o.toArray⟩, true)
    | none => some (⟨#[]⟩, false)
  else none
def glyph_Width.f (a0 : ByteArray) : Option Int := if a0.size ≤ 140737488355328 then some (widthL a0.data.toList : Int) else none
end Go.Proofs.Ythhkbbhfloekiaa.Pr
