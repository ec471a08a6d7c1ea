/- The plain law of NaiveLearns: what is learnt of any table is what the document learns, and right. -/
import Derived.Test.YtbfjlfbahjmibaaSpNaive
import Derived.Test.YtbfjlfbahjmibaaPr46
namespace Go.Proofs.Ytbfjlfbahjmibaa.Pure
open Go.RowKit Go.Proofs.Ytbfjlfbahjmibaa.Pr Go.Proofs.Ytbfjlfbahjmibaa.Bpe
set_option linter.unusedVariables false
theorem NaiveLearns (l0 : List (Pr.S35)) (a1 : Int) (a2 : Int) (x0 : l0.length ≤ maxLen) (y0 : ∀ x ∈ l0, x.f0.size ≤ maxLen ∧ (Lit.int .i64 x.f1).wf = true) (w1 : (Lit.int .i64 a1).wf = true) (w2 : (Lit.int .i64 a2).wf = true) : ∃ k, Pr.gluepotlaw16_NaiveLearns.f k l0 a1 a2 = some true := by
  have hm0 : maxLen ≤ 9223372036854775807 := by decide
  obtain ⟨g, hg, hgf⟩ := great16 l0 (by omega) (fun x hx => (y0 x hx).2)
  cases g with
  | true =>
    refine ⟨l0.length + 100, ?_⟩
    rw [gluepotlaw16_NaiveLearns.f, awake16_at (by omega), Option.bind_some, if_pos rfl, hg _ (by omega), Option.bind_some, if_pos rfl]
  | false =>
    have hf := hgf rfl
    have fin : ∀ (r : List S45) (k0 : Nat), (∀ k, k0 ≤ k → naive_Learn.f k l0 a1 a2 = some r ∧ gluepotref16_Learn.f k l0 a1 a2 = some r) → r.length ≤ 10000 → (∀ k, 5000000000 ≤ k → gluepotref16_Right.f k r = some true) → ∃ k, Pr.gluepotlaw16_NaiveLearns.f k l0 a1 a2 = some true := fun r k0 hk hr hrt => by
      refine ⟨k0 + l0.length + 6000000000, ?_⟩
      obtain ⟨h1, h2⟩ := hk (k0 + l0.length + 6000000000) (by omega)
      rw [gluepotlaw16_NaiveLearns.f, awake16_at (by omega), Option.bind_some, if_pos rfl, hg _ (by omega), Option.bind_some, if_neg (by simp), h1, Option.bind_some, h2, Option.bind_some, same_self r (by omega) _ (by omega), Option.bind_some, if_pos rfl, hrt _ (by omega), Option.bind_some]
    have nil : ∀ k, 5000000000 ≤ k → gluepotref16_Right.f k [] = some true := fun k hk => right_f (ts := []) (r := []) (fun o x p e => by simp at e) (by simp) (by simp) k (by simp; omega)
    rcases learn_f l0 hf with h | ⟨hok, h⟩
    · obtain ⟨k0, hk⟩ := h a1 a2
      exact fin [] k0 hk (by simp) nil
    · rcases h a1 a2 with ⟨_, k0, hk⟩ | ⟨hl, r, hr, k0, hk⟩
      · exact fin [] k0 hk (by simp) nil
      · have hlen := Lrn.len hl hr
        have hrm := hok.rem (o := [])
        rw [List.length_nil] at hlen
        exact fin r k0 hk (by omega) fun k hk => right_f (hr.chain hl (fun o x p e => by simp at e)) (by omega) (fun x hx => by have := Lrn.sizes hok hr (by simp) x hx; omega) k (by omega)
end Go.Proofs.Ytbfjlfbahjmibaa.Pure
