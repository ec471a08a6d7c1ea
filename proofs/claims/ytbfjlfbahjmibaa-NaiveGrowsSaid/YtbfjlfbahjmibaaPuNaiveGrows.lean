/- The plain law of NaiveGrows: with a greater budget, and a greater least count, the merges begin alike. -/
import Derived.Test.YtbfjlfbahjmibaaSpNaive
import Derived.Test.YtbfjlfbahjmibaaPr49
namespace Go.Proofs.Ytbfjlfbahjmibaa.Pure
open Go.RowKit Go.Proofs.Ytbfjlfbahjmibaa.Pr Go.Proofs.Ytbfjlfbahjmibaa.Bpe
set_option linter.unusedVariables false
theorem wf_u8 {n : Int} (h : (Lit.int .u8 n).wf = true) : 0 ≤ n ∧ n ≤ 255 := by
  simp [Lit.wf, IntKind.min, IntKind.max, IntKind.signed, IntKind.bits] at h
  omega
theorem NaiveGrows (l0 : List (Pr.S35)) (a1 : Int) (a2 : Int) (a3 : Int) (x0 : l0.length ≤ maxLen) (y0 : ∀ x ∈ l0, x.f0.size ≤ maxLen ∧ (Lit.int .i64 x.f1).wf = true) (w1 : (Lit.int .u8 a1).wf = true) (w2 : (Lit.int .u8 a2).wf = true) (w3 : (Lit.int .u8 a3).wf = true) : ∃ k, Pr.gluepotlaw16_NaiveGrows.f k l0 a1 a2 a3 = some true := by
  have hm0 : maxLen ≤ 9223372036854775807 := by decide
  obtain ⟨p1, p2⟩ := wf_u8 w1
  obtain ⟨q1, q2⟩ := wf_u8 w2
  obtain ⟨s1, s2⟩ := wf_u8 w3
  have e1 : wrap64 a1 = a1 := wrap_id (by omega) (by omega)
  have e2 : wrap64 a2 = a2 := wrap_id (by omega) (by omega)
  have e3 : wrap64 a3 = a3 := wrap_id (by omega) (by omega)
  have e4 : wrap64 (1 + a2) = 1 + a2 := wrap_id (by omega) (by omega)
  have e5 : wrap64 (a1 + a3) = a1 + a3 := wrap_id (by omega) (by omega)
  have e6 : wrap64 (1 + a2 + a3) = 1 + a2 + a3 := wrap_id (by omega) (by omega)
  obtain ⟨g, hg, hgf⟩ := great16 l0 (by omega) (fun x hx => (y0 x hx).2)
  cases g with
  | true =>
    refine ⟨l0.length + 100, ?_⟩
    rw [gluepotlaw16_NaiveGrows.f, awake16_at (by omega), Option.bind_some, if_pos rfl, hg _ (by omega), Option.bind_some, if_pos rfl]
  | false =>
    have hf := hgf rfl
    have fin : ∀ (a b c : List S45) (k1 k2 k3 k4 k5 : Nat), (∀ k, k1 ≤ k → naive_Learn.f k l0 a1 (1 + a2) = some a) → (∀ k, k2 ≤ k → naive_Learn.f k l0 (a1 + a3) (1 + a2) = some b) → (∀ k, k3 ≤ k → naive_Learn.f k l0 a1 (1 + a2 + a3) = some c) →
        (∀ k, k4 ≤ k → naive_Learn.f k l0 0 1 = some []) → (∀ k, k5 ≤ k → naive_Learn.f k l0 5 0 = some []) → (a.length : Int) ≤ a1 → (∃ p, b = a ++ p) → (∃ p, a = c ++ p) → ∃ k, Pr.gluepotlaw16_NaiveGrows.f k l0 a1 a2 a3 = some true := by
      rintro a b c k1 k2 k3 k4 k5 h1 h2 h3 h4 h5 ha ⟨p, rfl⟩ ⟨q, rfl⟩
      refine ⟨k1 + k2 + k3 + k4 + k5 + l0.length + 1000, ?_⟩
      have hal : (c ++ q).length ≤ 255 := by omega
      have hcl : c.length ≤ (c ++ q).length := by simp
      have t1 : (c ++ q ++ p).take (((c ++ q).length : Int) : Int).toNat = c ++ q := by rw [Int.toNat_natCast, List.take_left]
      have t2 : (c ++ q).take ((c.length : Int) : Int).toNat = c := by rw [Int.toNat_natCast, List.take_left]
      have hbl : ((c ++ q).length : Int) ≤ ((c ++ q ++ p).length : Int) := by simp; omega
      rw [gluepotlaw16_NaiveGrows.f, awake16_at (by omega), Option.bind_some, if_pos rfl, hg _ (by omega), Option.bind_some, if_neg (by simp), e1, e2, e3, e4, e5, e6, h1 _ (by omega), Option.bind_some, h2 _ (by omega), Option.bind_some, h3 _ (by omega), Option.bind_some,
        if_pos ha, if_pos hbl, if_pos (by omega), t1, same_self _ (by omega) _ (by omega), Option.bind_some, if_pos rfl, if_pos (by omega), if_pos (by omega), t2, same_self _ (by omega) _ (by omega), Option.bind_some, if_pos rfl, h4 _ (by omega), Option.bind_some, if_pos (by simp), h5 _ (by omega), Option.bind_some]
      rfl
    rcases learn_f l0 hf with h | ⟨hok, h⟩
    · obtain ⟨k1, h1⟩ := h a1 (1 + a2)
      obtain ⟨k2, h2⟩ := h (a1 + a3) (1 + a2)
      obtain ⟨k3, h3⟩ := h a1 (1 + a2 + a3)
      obtain ⟨k4, h4⟩ := h 0 1
      obtain ⟨k5, h5⟩ := h 5 0
      exact fin [] [] [] k1 k2 k3 k4 k5 (fun k hk => (h1 k hk).1) (fun k hk => (h2 k hk).1) (fun k hk => (h3 k hk).1) (fun k hk => (h4 k hk).1) (fun k hk => (h5 k hk).1) (by simpa using p1) ⟨[], rfl⟩ ⟨[], rfl⟩
    · rcases h a1 (1 + a2) with ⟨hx, _⟩ | ⟨_, a, ha, k1, h1⟩
      · omega
      rcases h (a1 + a3) (1 + a2) with ⟨hx, _⟩ | ⟨_, b, hb, k2, h2⟩
      · omega
      rcases h a1 (1 + a2 + a3) with ⟨hx, _⟩ | ⟨_, c, hc, k3, h3⟩
      · omega
      rcases h 0 1 with ⟨hx, _⟩ | ⟨_, z, hz, k4, h4⟩
      · omega
      rcases h 5 0 with ⟨_, k5, h5⟩ | ⟨hx, _⟩
      · have hz0 := hz.budget (by simp)
        obtain rfl : z = [] := List.length_eq_zero_iff.1 (by omega)
        exact fin a b c k1 k2 k3 k4 k5 (fun k hk => (h1 k hk).1) (fun k hk => (h2 k hk).1) (fun k hk => (h3 k hk).1) (fun k hk => (h4 k hk).1) (fun k hk => (h5 k hk).1) (ha.budget (by simpa using p1)) (ha.begins (by omega) (Int.le_refl _) hb) (hc.begins (Int.le_refl _) (by omega) ha)
      · omega
end Go.Proofs.Ytbfjlfbahjmibaa.Pure
