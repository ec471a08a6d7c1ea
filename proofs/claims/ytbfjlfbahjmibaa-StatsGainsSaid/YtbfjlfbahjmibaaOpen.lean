/- Plain lemmas: an argument that can be read as data is a value of its kind, in the words of the print (Kd), with the bounds that every reading has. -/
import Derived.Test.YtbfjlfbahjmibaaWWords
import Derived.WideShapes
import Derived.ChangeArms
import Derived.ChangeShapes
import Derived.Deep.Slices
namespace Go.Proofs.Ytbfjlfbahjmibaa.Open
open Go.RowKit Go.Proofs.YtbfjlfbahjmibaaW.PrintWords
open Go.ChangeShapes Go.WideShapes Go.Deep

/-- Whatever can be read at type t is a value of the kind d, and within ok. -/
structure Opens {H : Type} (enc : TypeId × Value → H) (P : Program) (w : World) (t : TypeId) {α : Type} (d : Kd α) (ok : α → Prop) : Prop where
  out : ∀ fuel cs x, DataW.trod enc P w 0 (fun _ => true) true fuel t cs = some x → ∃ v : α, d.K w v cs ∧ ok v

section
variable {H : Type} {enc : TypeId × Value → H} {P : Program} {w : World} {t e : TypeId}

theorem opens_int {k : IntKind} (ht : P.underlying t = some (.int k)) : Opens enc P w t (Kd.int k) (fun n => (Lit.int k n).wf = true) :=
  ⟨fun _ _ _ h => by
    obtain ⟨n, rfl, _, hw⟩ := DataW.trod_int ht h
    exact ⟨n, rfl, hw⟩⟩
theorem opens_string (ht : P.underlying t = some .string) : Opens enc P w t Kd.string (fun s => s.size ≤ maxLen) :=
  ⟨fun _ _ _ h => by
    obtain ⟨s, rfl, _, hw⟩ := DataW.trod_string ht h
    exact ⟨s, rfl, hw⟩⟩

theorem cells?_get {base : Nat} {a : Addr} {n : Nat} {cs : List Value} (h : w.cells? base a n = some cs) : cs.length = n ∧ ∀ i u, cs[i]? = some u → w.cell? (a.add i) = some u := by
  unfold World.cells? at h
  split at h
  · have hl := mapM_some_length h
    have hl' : cs.length = n := by simpa using hl
    refine ⟨hl', fun i u hu => ?_⟩
    have hi : i < n := by
      rcases Nat.lt_or_ge i n with h1 | h1
      · exact h1
      · rw [List.getElem?_eq_none (by omega)] at hu
        cases hu
    have hg := mapM_some_get h i i (by simp [hi])
    rw [hg]
    exact hu
  · cases h

theorem add_add (a : Addr) (i j : Nat) : (a.add i).add j = a.add (i + j) := by
  unfold Addr.add
  by_cases hi : i = 0 <;> by_cases hj : j = 0 <;> simp [hi, hj, Nat.add_assoc]

theorem opens_row {α : Type} {d : Kd α} {ok : α → Prop} (hc : P.cellsOf e = d.sz) (h : Opens enc P w e d ok) {a : Addr} {n m : Nat} {D : Nat → DataW H} {Pl : Nat → List MemPlace}
    (hx : ∀ i, i < m → ∃ cs', w.cells? 0 (a.add (i * P.cellsOf e)) (P.cellsOf e) = some cs' ∧ DataW.trod enc P w 0 (fun _ => true) true n e cs' = some (D i, Pl i)) :
    ∀ len, len ≤ m → ∃ xs : List α, xs.length = len ∧ (∀ x ∈ xs, ok x) ∧ ∀ j p, xs[j]? = some p → ∃ c, c.length = d.sz ∧ d.K w p c ∧ ∀ i u, c[i]? = some u → w.cell? (a.add (j * d.sz + i)) = some u
  | 0, _ => ⟨[], rfl, by simp, by simp⟩
  | len + 1, hl => by
    obtain ⟨xs, h1, h2, h3⟩ := opens_row hc h hx len (by omega)
    obtain ⟨cs', h4, h5⟩ := hx len (by omega)
    obtain ⟨v, h6, h7⟩ := h.out _ _ _ h5
    obtain ⟨h8, h9⟩ := cells?_get h4
    refine ⟨xs ++ [v], by simp [h1], fun x hxm => ?_, fun j p hj => ?_⟩
    · rcases List.mem_append.1 hxm with hm | hm
      · exact h2 x hm
      · rw [List.mem_singleton.1 hm]
        exact h7
    · rcases Nat.lt_or_ge j xs.length with hlt | hge
      · rw [List.getElem?_append_left hlt] at hj
        exact h3 j p hj
      · rw [List.getElem?_append_right hge] at hj
        have hj0 : j - xs.length = 0 := by
          rcases Nat.eq_zero_or_pos (j - xs.length) with h0 | h0
          · exact h0
          · rw [List.getElem?_eq_none (by simp; omega)] at hj
            cases hj
        have hje : j = len := by omega
        subst hje
        rw [hj0] at hj
        obtain rfl : v = p := by simpa using hj
        refine ⟨cs', by rw [h8, hc], h6, fun i u hu => ?_⟩
        have := h9 i u hu
        rw [add_add, hc] at this
        exact this

/-- A slice: its length, and each element. -/
theorem opens_slice {α : Type} {d : Kd α} {ok : α → Prop} (ht : P.underlying t = some (.slice e)) (hc : P.cellsOf e = d.sz) (h : Opens enc P w e d ok) (e' : Nat) :
    Opens enc P w t (Kd.slice e' d) (fun xs => xs.length ≤ maxLen ∧ ∀ x ∈ xs, ok x) :=
  ⟨fun fuel cs x hx => by
    rcases open_slice ht hx with ⟨rfl, _⟩ | ⟨a, len, cap, m, n, D, Pl, rfl, _, hl, hm, hmm, _, hel⟩
    · exact ⟨[], ⟨none, 0, rfl, Nat.le_refl _, rfl, by simp, fun h0 => absurd h0 (by simp)⟩, by simp [maxLen], by simp⟩
    · obtain ⟨xs, h1, h2, h3⟩ := opens_row hc h hel len (by simp only [if_true] at hmm; omega)
      refine ⟨xs, ⟨some a, cap, by rw [h1], by omega, rfl, by unfold maxLen at hm; omega, fun _ => ⟨a, rfl, h3⟩⟩, by omega, h2⟩⟩

/-- A slice that is an argument: its value, and what it reads as. -/
theorem open_arg_slice {α : Type} {d : Kd α} {ok : α → Prop} (ht : P.underlying t = some (.slice e)) (hc : P.cellsOf e = d.sz) (h : Opens enc P w e d ok)
    {r : Reach} {b0 : Nat} {v : Value} {y : DataW H} {ps : List MemPlace} (hval : Value.okWide P w r b0 t v) (hd : DataW.Trod enc P w 0 (fun _ => true) true t v y ps) :
    ∃ (A : Option Addr) (c : Nat) (xs : List α), v = .slice A xs.length c ∧ xs.length ≤ c ∧ d.C w A xs.length xs ∧ xs.length ≤ maxLen ∧ ∀ x ∈ xs, ok x := by
  obtain ⟨a, len, cap, rfl⟩ := okWide_slice ht hval
  obtain ⟨fuel, hf⟩ := hd
  obtain ⟨xs, ⟨A, c, he, hl, hC⟩, h1, h2⟩ := (opens_slice ht hc h 0).out _ _ _ hf
  have he' : [Value.slice a len cap] = [.slice A xs.length c] := by simpa [Value.cells] using he
  injection he' with he' _
  exact ⟨A, c, xs, he', hl, hC, h1, h2⟩
end
end Go.Proofs.Ytbfjlfbahjmibaa.Open
