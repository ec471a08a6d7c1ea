/- The plain law of SplitJoins. -/
import Derived.Test.YtmldibphbilghaaSpWords
import Derived.Test.YtmldibphbilghaaHLaw03
import Derived.Test.YtmldibphbilghaaHLawSplitJoins
namespace Go.Proofs.Ytmldibphbilghaa.Pure
open Go.RowKit Go.Proofs.Ytmldibphbilghaa.Pr Go.Proofs.YtmldibphbilghaaW.PrintWords Go.Proofs.YtmldibphbilghaaW.PrintLast
open Spl (gap feedL endL)
set_option linter.unusedSimpArgs false
set_option linter.unusedVariables false

/-- A word: not empty, no gap in it. -/
def Good (w : List UInt8) : Prop := w ≠ [] ∧ ∀ c ∈ w, gap c = false
theorem words_good : ∀ (l op : List UInt8), (∀ c ∈ op, gap c = false) → ∀ w ∈ wordsW op l, Good w
  | [], op, h, w, hw => by
    rw [wordsW, endL] at hw
    split at hw
    · simp at hw
    · simp at hw
      subst hw
      exact ⟨by assumption, h⟩
  | c :: l, op, h, w, hw => by
    rw [wordsW] at hw
    split at hw
    · split at hw
      · exact words_good l [] (by simp) w hw
      · rcases List.mem_cons.1 hw with rfl | hw
        · exact ⟨by assumption, h⟩
        · exact words_good l [] (by simp) w hw
    · rename_i hg
      refine words_good l (op ++ [c]) (fun d hd => ?_) w hw
      rcases List.mem_append.1 hd with hd | hd
      · exact h d hd
      · simp at hd
        subst hd
        simpa using hg
/-- All words' bytes, and one for each. -/
def total : List (List UInt8) → Nat
  | [] => 0
  | w :: ws => w.length + 1 + total ws
theorem words_total : ∀ (l op : List UInt8), total (wordsW op l) ≤ op.length + l.length + 1
  | [], op => by rw [wordsW, endL]; split <;> simp [total]
  | c :: l, op => by
    rw [wordsW]
    have h1 := words_total l []
    have h2 := words_total l (op ++ [c])
    simp at h1 h2
    split
    · split
      · simp; omega
      · simp [total]; omega
    · simp; omega
theorem total_len (L : List (List UInt8)) : L.length ≤ total L := by
  induction L with
  | nil => exact Nat.le_refl _
  | cons w L ih => simp [total]; omega
theorem total_mem {L : List (List UInt8)} {w : List UInt8} (h : w ∈ L) : w.length ≤ total L := by
  induction L with
  | nil => simp at h
  | cons v L ih =>
    rcases List.mem_cons.1 h with rfl | h
    · simp [total]; omega
    · have := ih h
      simp [total]; omega
theorem words_run (g : UInt8) (hg : gap g = true) (t : List UInt8) : ∀ (w op : List UInt8), (∀ c ∈ w, gap c = false) → op ++ w ≠ [] → wordsW op (w ++ g :: t) = (op ++ w) :: wordsW [] t
  | [], op, h, hne => by
    rw [List.nil_append, wordsW, if_pos hg, if_neg (by simpa using hne), List.append_nil]
  | c :: w, op, h, hne => by
    rw [List.cons_append, wordsW, if_neg (by simp [h c (by simp)]), words_run g hg t w (op ++ [c]) (fun d hd => h d (by simp [hd])) (by simp)]
    simp
def gapAt (n : Nat) : UInt8 := [9, 10, 13, 32].getD (n % 4) 0
theorem gapAt_gap (n : Nat) : gap (gapAt n) = true := by
  have : ∀ k : Fin 4, gap ([9, 10, 13, 32].getD k.val 0) = true := by decide +kernel
  exact this ⟨n % 4, by omega⟩
def joinT (a : Nat) : Nat → List (List UInt8) → List UInt8
  | _, [] => []
  | i, w :: ws => w ++ gapAt (a + i) :: joinT a (i + 1) ws
theorem joinT_words (a : Nat) : ∀ (L : List (List UInt8)) (i : Nat), (∀ w ∈ L, Good w) → wordsW [] (joinT a i L) = L
  | [], i, h => rfl
  | w :: ws, i, h => by
    obtain ⟨h1, h2⟩ := h w (by simp)
    rw [joinT, words_run _ (gapAt_gap _) _ w [] h2 (by simpa using h1), joinT_words a ws (i + 1) (fun v hv => h v (by simp [hv]))]
    simp
theorem joinT_len (a : Nat) : ∀ (L : List (List UInt8)) (i : Nat), (joinT a i L).length = total L
  | [], i => rfl
  | w :: ws, i => by
    simp [joinT, total, joinT_len a ws (i + 1)]
    omega
theorem gap_ext (a i : Nat) (h : a < 256) (hi : i ≤ 100000) : Int.tmod (wrap64 ((wrap64 (a : Int)) + (i : Int))) 4 = (((a + i) % 4 : Nat) : Int) := by
  have e1 : wrap64 (a : Int) = (a : Int) := wrap_nat (n := a) (by omega)
  have e2 : wrap64 ((a : Int) + (i : Int)) = ((a + i : Nat) : Int) := by rw [show (a : Int) + i = ((a + i : Nat) : Int) by omega]; exact wrap_nat (by omega)
  rw [e1, e2]
  rfl
theorem ext_gap : ∀ q : Nat, q < 4 → ((⟨#[9, 10, 13, 32]⟩ : ByteArray).extract q (q + 1)) = mkB [[9, 10, 13, 32].getD q 0]
  | 0, _ => by decide +kernel
  | 1, _ => by decide +kernel
  | 2, _ => by decide +kernel
  | 3, _ => by decide +kernel
  | q + 4, h => by omega
theorem mk_app (a b : List UInt8) : mkB a ++ mkB b = mkB (a ++ b) := mk_append a b
theorem mkB_size (a : List UInt8) : (mkB a).size = a.length := mk_size a
theorem gap_bt (w : List UInt8) (j : Nat) (hj : j < w.length) (hg : ∀ c ∈ w, gap c = false) : split_Gap.f (bt (mkB w) (j : Int)) = some false := by
  rw [bt_list _ j (by rw [mkB_size]; exact hj)]
  unfold split_Gap.f
  congr 1
  rw [show (((mkB w).data.toList.getD j 0).toNat : Int).toNat.toUInt8 = w.getD j 0 by simp [mkB]]
  rw [List.getD_eq_getElem?_getD, List.getElem?_eq_getElem hj]
  exact hg _ (List.getElem_mem hj)
theorem rd_map (L : List (List UInt8)) (i : Nat) (hi : i < L.length) : rdOf ByteArray.empty (L.map mkB) (i : Int) = mkB (L.getD i []) := by
  unfold rdOf
  rw [Int.toNat_natCast, List.getD_eq_getElem?_getD, List.getElem?_map, List.getElem?_eq_getElem hi, List.getD_eq_getElem?_getD, List.getElem?_eq_getElem hi]
  rfl
theorem joins_l1 (a : Nat) (ha : a < 256) (L : List (List UInt8)) (t : List UInt8) (i : Nat) (hi : i < L.length) (hL : L.length ≤ 3001) (hg : Good (L.getD i [])) (hlen : t.length + (L.getD i []).length + 1 ≤ 7000) (K : Nat)
    (hnext : ∀ k, K ≤ k → gluepotlaw03_SplitJoins.l0 k a (L.map mkB) (mkB (t ++ (L.getD i [] ++ [gapAt (a + i)]))) ((i + 1 : Nat) : Int) = some true) :
    ∀ m j k, j + m = (L.getD i []).length → K + 1 + m ≤ k → gluepotlaw03_SplitJoins.l1 k a (L.map mkB) (mkB t) (i : Int) (j : Int) = some true
  | 0, j, k + 1, h, hk => by
    rw [gluepotlaw03_SplitJoins.l1, if_pos (by omega), if_pos (by rw [List.length_map]; omega), rd_map L i hi, if_neg (by rw [mkB_size]; omega), if_pos (by rw [mkB_size, mkB_size]; omega)]
    rw [gap_ext a i ha (by omega)]
    have hq : (a + i) % 4 < 4 := by omega
    rw [show wrap64 (((a + i) % 4 : Nat) + 1 : Int) = (((a + i) % 4 + 1 : Nat) : Int) from wrap_nat (n := (a + i) % 4 + 1) (by omega)]
    rw [if_pos (by omega), if_pos (by omega), if_pos (by omega)]
    rw [Int.toNat_natCast, Int.toNat_natCast, ext_gap _ hq, mk_app, mk_app]
    rw [if_pos (by rw [mkB_size, mkB_size]; simp only [List.length_append, List.length_cons, List.length_nil]; omega)]
    have hne : ¬ (mkB (L.getD i [])).toList = [] := by
      rw [toList_data]
      simpa [mkB] using hg.1
    rw [if_neg hne, if_neg (by rw [mkB_size]; simp only [List.length_append, List.length_cons, List.length_nil]; omega)]
    rw [show wrap64 ((i : Int) + 1) = ((i + 1 : Nat) : Int) from wrap_nat (n := i + 1) (by omega)]
    have := hnext k (by omega)
    rwa [← List.append_assoc] at this
  | m + 1, j, k + 1, h, hk => by
    rw [gluepotlaw03_SplitJoins.l1, if_pos (by omega), if_pos (by rw [List.length_map]; omega), rd_map L i hi, if_pos (by rw [mkB_size]; omega), if_pos (by omega), gap_bt _ j (by omega) hg.2, Option.bind_some, if_neg (by simp),
      show wrap64 ((j : Int) + 1) = ((j + 1 : Nat) : Int) from wrap_nat (n := j + 1) (by have := hlen; omega)]
    exact joins_l1 a ha L t i hi hL hg hlen K hnext m (j + 1) k (by omega) (by omega)
theorem drop_getD2 (l : List (List UInt8)) (k : Nat) (h : k < l.length) : l.drop k = l.getD k [] :: l.drop (k + 1) := by
  rw [List.drop_eq_getElem_cons h]
  congr 1
  rw [List.getD_eq_getElem?_getD, List.getElem?_eq_getElem h]
  rfl
theorem joins_l0 (a : Nat) (ha : a < 256) (L : List (List UInt8)) (hL : L.length ≤ 3001) (hgood : ∀ w ∈ L, Good w) (hall : ∀ w ∈ L, w.length ≤ 3001) :
    ∀ m i (t : List UInt8) k, i + m = L.length → 10000 + 4000 * m ≤ k → t.length + total (L.drop i) ≤ 3001 → wordsW [] (t ++ joinT a i (L.drop i)) = L → gluepotlaw03_SplitJoins.l0 k a (L.map mkB) (mkB t) (i : Int) = some true
  | 0, i, t, k, h, hk, ht, hw => by
    obtain ⟨k, rfl⟩ : ∃ k', k = k' + 2 := ⟨k - 2, by omega⟩
    rw [gluepotlaw03_SplitJoins.l0, if_neg (by rw [List.length_map]; omega), gluepotlaw03_SplitJoins.j1, if_neg (by simp)]
    rw [List.drop_of_length_le (by omega)] at ht hw
    unfold split_Words.f
    rw [if_pos (by rw [mkB_size]; omega), Option.bind_some]
    have hmk : (mkB t).data.toList = t := by simp [mkB]
    simp [joinT] at hw
    rw [hmk, wordsL_W, hw, texts_same _ (by rw [List.length_map]; omega) (by rw [List.length_map]; omega)]
    rfl
  | m + 1, i, t, k, h, hk, ht, hw => by
    have hi : i < L.length := by omega
    obtain ⟨k, rfl⟩ : ∃ k', k = k' + 2 := ⟨k - 2, by omega⟩
    rw [gluepotlaw03_SplitJoins.l0, if_pos (by rw [List.length_map]; omega), show decide ((i : Int) ≤ 3000) = true from decide_eq_true (by omega), gluepotlaw03_SplitJoins.j1, if_pos rfl]
    have hmem : L.getD i [] ∈ L := by
      rw [List.getD_eq_getElem?_getD, List.getElem?_eq_getElem hi]
      exact List.getElem_mem hi
    have hd := drop_getD2 L i hi
    rw [hd, total] at ht
    rw [hd, joinT] at hw
    have hwl := hall _ hmem
    refine joins_l1 a ha L t i hi hL (hgood _ hmem) (by omega) (10000 + 4000 * m) ?_ (L.getD i []).length 0 k (by omega) (by omega)
    intro k' hk'
    refine joins_l0 a ha L hL hgood hall m (i + 1) _ k' (by omega) hk' (by simp only [List.length_append, List.length_cons, List.length_nil]; omega) ?_
    simpa only [List.append_assoc, List.singleton_append, List.cons_append, List.nil_append] using hw
theorem SplitJoins (a0 : ByteArray) (a1 : Int) (_w0 : a0.size ≤ maxLen) (w1 : (Lit.int .u8 a1).wf = true) : ∃ k, Pr.gluepotlaw03_SplitJoins.f k a0 a1 = some true := by
  refine ⟨100000000, ?_⟩
  simp [Lit.wf, IntKind.min, IntKind.max, IntKind.signed, IntKind.bits] at w1
  obtain ⟨a, rfl⟩ : ∃ a : Nat, a1 = (a : Int) := ⟨a1.toNat, by omega⟩
  unfold gluepotlaw03_SplitJoins.f gluepotlaw03_awake.f
  rw [Option.bind_some, if_pos rfl]
  by_cases h : (a0.size : Int) > 3000
  · rw [if_pos h]
  · rw [if_neg h]
    unfold split_Words.f
    rw [if_pos (by omega), Option.bind_some, wordsL_W]
    have ht := words_total a0.data.toList []
    rw [size_list] at ht
    simp at ht
    have hn := total_len (wordsW [] a0.data.toList)
    have hgood := words_good a0.data.toList [] (by simp)
    have := joins_l0 a (by omega) (wordsW [] a0.data.toList) (by omega) hgood (fun w hw => by have := total_mem hw; omega) (wordsW [] a0.data.toList).length 0 [] 100000000 (by omega) (by omega) (by simp; omega) (by simpa using joinT_words a _ 0 hgood)
    exact this
end Go.Proofs.Ytmldibphbilghaa.Pure
