/- Open, OpenS in one text (wip/mtext.py). -/
import Derived.Test.YtbfjlfbahjmibaaWWords
import Derived.WideShapes
import Derived.ChangeArms
import Derived.ChangeShapes
import Derived.Deep.Slices
import Derived.Lib.SmallJoins
import Derived.KernelRfl
import Derived.Test.YtbfjlfbahjmibaaProg
import Derived.Test.YtbfjlfbahjmibaaPr0
namespace Go.Proofs.Ytbfjlfbahjmibaa.Open
open Go.RowKit Go.Proofs.YtbfjlfbahjmibaaW.PrintWords
open Go.ChangeShapes Go.WideShapes Go.Deep

/-- Whatever can be read at type t is a value of the kind d, and within ok. -/
structure Opens {H : Type} (enc : TypeId × Value → H) (P : Program) (w : World) (t : TypeId) {α : Type} (d : Kd α) (ok : α → Prop) : Prop where
  out : ∀ fuel cs x, DataW.trod enc P w 0 (fun _ => true) true fuel t cs = some x → ∃ v : α, d.K w v cs ∧ ok v

section
variable {H : Type} {enc : TypeId × Value → H} {P : Program} {w : World} {t e : TypeId}

theorem opens_int {k : IntKind} (ht : P.underlying t = some (.int k)) : Opens enc P w t (Kd.int k) (fun n => (Lit.int k n).wf = true) :=
  ⟨fun _ _ _ h => by
    obtain ⟨n, rfl, _, hw⟩ := DataW.trod_int ht h
    exact ⟨n, rfl, hw⟩⟩
theorem opens_string (ht : P.underlying t = some .string) : Opens enc P w t Kd.string (fun s => s.size ≤ maxLen) :=
  ⟨fun _ _ _ h => by
    obtain ⟨s, rfl, _, hw⟩ := DataW.trod_string ht h
    exact ⟨s, rfl, hw⟩⟩

theorem cells?_get {base : Nat} {a : Addr} {n : Nat} {cs : List Value} (h : w.cells? base a n = some cs) : cs.length = n ∧ ∀ i u, cs[i]? = some u → w.cell? (a.add i) = some u := by
  unfold World.cells? at h
  split at h
  · have hl := mapM_some_length h
    have hl' : cs.length = n := by simpa using hl
    refine ⟨hl', fun i u hu => ?_⟩
    have hi : i < n := by
      rcases Nat.lt_or_ge i n with h1 | h1
      · exact h1
      · rw [List.getElem?_eq_none (by omega)] at hu
        cases hu
    have hg := mapM_some_get h i i (by simp [hi])
    rw [hg]
    exact hu
  · cases h

theorem add_add (a : Addr) (i j : Nat) : (a.add i).add j = a.add (i + j) := by
  unfold Addr.add
  by_cases hi : i = 0 <;> by_cases hj : j = 0 <;> simp [hi, hj, Nat.add_assoc]

theorem opens_row {α : Type} {d : Kd α} {ok : α → Prop} (hc : P.cellsOf e = d.sz) (h : Opens enc P w e d ok) {a : Addr} {n m : Nat} {D : Nat → DataW H} {Pl : Nat → List MemPlace}
    (hx : ∀ i, i < m → ∃ cs', w.cells? 0 (a.add (i * P.cellsOf e)) (P.cellsOf e) = some cs' ∧ DataW.trod enc P w 0 (fun _ => true) true n e cs' = some (D i, Pl i)) :
    ∀ len, len ≤ m → ∃ xs : List α, xs.length = len ∧ (∀ x ∈ xs, ok x) ∧ ∀ j p, xs[j]? = some p → ∃ c, c.length = d.sz ∧ d.K w p c ∧ ∀ i u, c[i]? = some u → w.cell? (a.add (j * d.sz + i)) = some u
  | 0, _ => ⟨[], rfl, by simp, by simp⟩
  | len + 1, hl => by
    obtain ⟨xs, h1, h2, h3⟩ := opens_row hc h hx len (by omega)
    obtain ⟨cs', h4, h5⟩ := hx len (by omega)
    obtain ⟨v, h6, h7⟩ := h.out _ _ _ h5
    obtain ⟨h8, h9⟩ := cells?_get h4
    refine ⟨xs ++ [v], by simp [h1], fun x hxm => ?_, fun j p hj => ?_⟩
    · rcases List.mem_append.1 hxm with hm | hm
      · exact h2 x hm
      · rw [List.mem_singleton.1 hm]
        exact h7
    · rcases Nat.lt_or_ge j xs.length with hlt | hge
      · rw [List.getElem?_append_left hlt] at hj
        exact h3 j p hj
      · rw [List.getElem?_append_right hge] at hj
        have hj0 : j - xs.length = 0 := by
          rcases Nat.eq_zero_or_pos (j - xs.length) with h0 | h0
          · exact h0
          · rw [List.getElem?_eq_none (by simp; omega)] at hj
            cases hj
        have hje : j = len := by omega
        subst hje
        rw [hj0] at hj
        obtain rfl : v = p := by simpa using hj
        refine ⟨cs', by rw [h8, hc], h6, fun i u hu => ?_⟩
        have := h9 i u hu
        rw [add_add, hc] at this
        exact this

/-- A slice: its length, and each element. -/
theorem opens_slice {α : Type} {d : Kd α} {ok : α → Prop} (ht : P.underlying t = some (.slice e)) (hc : P.cellsOf e = d.sz) (h : Opens enc P w e d ok) (e' : Nat) :
    Opens enc P w t (Kd.slice e' d) (fun xs => xs.length ≤ maxLen ∧ ∀ x ∈ xs, ok x) :=
  ⟨fun fuel cs x hx => by
    rcases open_slice ht hx with ⟨rfl, _⟩ | ⟨a, len, cap, m, n, D, Pl, rfl, _, hl, hm, hmm, _, hel⟩
    · exact ⟨[], ⟨none, 0, rfl, Nat.le_refl _, rfl, by simp, fun h0 => absurd h0 (by simp)⟩, by simp [maxLen], by simp⟩
    · obtain ⟨xs, h1, h2, h3⟩ := opens_row hc h hel len (by simp only [if_true] at hmm; omega)
      refine ⟨xs, ⟨some a, cap, by rw [h1], by omega, rfl, by unfold maxLen at hm; omega, fun _ => ⟨a, rfl, h3⟩⟩, by omega, h2⟩⟩

/-- A slice that is an argument: its value, and what it reads as. -/
theorem open_arg_slice {α : Type} {d : Kd α} {ok : α → Prop} (ht : P.underlying t = some (.slice e)) (hc : P.cellsOf e = d.sz) (h : Opens enc P w e d ok)
    {r : Reach} {b0 : Nat} {v : Value} {y : DataW H} {ps : List MemPlace} (hval : Value.okWide P w r b0 t v) (hd : DataW.Trod enc P w 0 (fun _ => true) true t v y ps) :
    ∃ (A : Option Addr) (c : Nat) (xs : List α), v = .slice A xs.length c ∧ xs.length ≤ c ∧ d.C w A xs.length xs ∧ xs.length ≤ maxLen ∧ ∀ x ∈ xs, ok x := by
  obtain ⟨a, len, cap, rfl⟩ := okWide_slice ht hval
  obtain ⟨fuel, hf⟩ := hd
  obtain ⟨xs, ⟨A, c, he, hl, hC⟩, h1, h2⟩ := (opens_slice ht hc h 0).out _ _ _ hf
  have he' : [Value.slice a len cap] = [.slice A xs.length c] := by simpa [Value.cells] using he
  injection he' with he' _
  exact ⟨A, c, xs, he', hl, hC, h1, h2⟩
end
end Go.Proofs.Ytbfjlfbahjmibaa.Open

namespace Go.Proofs.Ytbfjlfbahjmibaa.Pr
open Go.Joins Go.ChangeShapes Go.WideShapes
theorem array6 {α : Type} {cs : Array α} (h : cs.size = 6) : ∃ c0 c1 c2 c3 c4 c5, cs = #[c0, c1, c2, c3, c4, c5] := by
  obtain ⟨l⟩ := cs
  match l, h with
  | [c0, c1, c2, c3, c4, c5], _ => exact ⟨c0, c1, c2, c3, c4, c5, rfl⟩
section
variable {H : Type} {enc : TypeId × Value → H} {P : Program} {w : World} {base : Nat} {spare : Nat → Bool} {held : Bool}
theorem trod_struct6 {t : TypeId} {f0 f1 f2 f3 f4 f5 : Field} {fuel : Nat} {cs : List Value} {x : DataW H × List MemPlace} (ht : P.underlying t = some (.struct #[f0, f1, f2, f3, f4, f5])) (h : DataW.trod enc P w base spare held fuel t cs = some x) :
    ∃ y0 y1 y2 y3 y4 y5 n, DataW.trod enc P w base spare held n f0.type ((cs.drop f0.offset).take (P.cellsOf f0.type)) = some y0 ∧
      DataW.trod enc P w base spare held n f1.type ((cs.drop f1.offset).take (P.cellsOf f1.type)) = some y1 ∧ DataW.trod enc P w base spare held n f2.type ((cs.drop f2.offset).take (P.cellsOf f2.type)) = some y2 ∧
      DataW.trod enc P w base spare held n f3.type ((cs.drop f3.offset).take (P.cellsOf f3.type)) = some y3 ∧ DataW.trod enc P w base spare held n f4.type ((cs.drop f4.offset).take (P.cellsOf f4.type)) = some y4 ∧
      DataW.trod enc P w base spare held n f5.type ((cs.drop f5.offset).take (P.cellsOf f5.type)) = some y5 := by
  obtain ⟨xs, n, _, rfl, hl, hlen, hf⟩ := DataW.trod_struct ht h
  match xs, hlen with
  | [y0, y1, y2, y3, y4, y5], _ => exact ⟨y0, y1, y2, y3, y4, y5, n, by simpa using hf 0 f0 rfl, by simpa using hf 1 f1 rfl, by simpa using hf 2 f2 rfl, by simpa using hf 3 f3 rfl, by simpa using hf 4 f4 rfl, by simpa using hf 5 f5 rfl⟩
theorem open_arg_S54 {r : Reach} {b0 : Nat} {v : Value} {d : DataW H} {p : List MemPlace} (hval : Value.okWide Try.prog w r b0 54 v) (h : DataW.Trod enc Try.prog w base spare held 54 v d p) :
    ∃ a0 a1 a2 a3 a4 a5 : Int, v = .agg #[.int .i64 a0, .int .i64 a1, .int .i64 a2, .int .i64 a3, .int .i64 a4, .int .i64 a5] ∧ (Lit.int .i64 a0).wf = true ∧ (Lit.int .i64 a1).wf = true ∧ (Lit.int .i64 a2).wf = true ∧ (Lit.int .i64 a3).wf = true ∧ (Lit.int .i64 a4).wf = true ∧ (Lit.int .i64 a5).wf = true := by
  have c1 : Try.prog.cellsOf 3 = 1 := by kernel_rfl
  obtain ⟨cs, rfl, hsz⟩ := okWide_struct Try.underlying54 hval
  obtain ⟨c0, c1', c2, c3, c4, c5, rfl⟩ := array6 (hsz.trans (by kernel_rfl))
  obtain ⟨fuel, hf⟩ := h
  obtain ⟨y0, y1, y2, y3, y4, y5, n, h0, h1, h2, h3, h4, h5⟩ := trod_struct6 Try.underlying54 hf
  rw [c1] at h0
  obtain ⟨a0, e0, _, w0⟩ := DataW.trod_int Try.underlying3 h0
  simp [Value.cells] at e0
  subst e0
  rw [c1] at h1
  obtain ⟨a1, e1, _, w1⟩ := DataW.trod_int Try.underlying3 h1
  simp [Value.cells] at e1
  subst e1
  rw [c1] at h2
  obtain ⟨a2, e2, _, w2⟩ := DataW.trod_int Try.underlying3 h2
  simp [Value.cells] at e2
  subst e2
  rw [c1] at h3
  obtain ⟨a3, e3, _, w3⟩ := DataW.trod_int Try.underlying3 h3
  simp [Value.cells] at e3
  subst e3
  rw [c1] at h4
  obtain ⟨a4, e4, _, w4⟩ := DataW.trod_int Try.underlying3 h4
  simp [Value.cells] at e4
  subst e4
  rw [c1] at h5
  obtain ⟨a5, e5, _, w5⟩ := DataW.trod_int Try.underlying3 h5
  simp [Value.cells] at e5
  subst e5
  exact ⟨a0, a1, a2, a3, a4, a5, rfl, w0, w1, w2, w3, w4, w5⟩
end
/-- A word with its count, as an element. -/
theorem opens_S35 {H : Type} {enc : TypeId × Value → H} {w : World} : Go.Proofs.Ytbfjlfbahjmibaa.Open.Opens enc Try.prog w 35 k35 (fun x => x.f0.size ≤ maxLen ∧ (Lit.int .i64 x.f1).wf = true) :=
  ⟨fun _ cs _ h => by
    have c0 : Try.prog.cellsOf 9 = 1 := by kernel_rfl
    have c1 : Try.prog.cellsOf 3 = 1 := by kernel_rfl
    have hlen : cs.length = 2 := by
      obtain ⟨_, _, _, _, hl, _⟩ := DataW.trod_struct Try.underlying35 h
      exact hl.trans (by kernel_rfl)
    obtain ⟨a, b, rfl⟩ : ∃ a b, cs = [a, b] := by
      match cs, hlen with
      | [a, b], _ => exact ⟨a, b, rfl⟩
    obtain ⟨y0, y1, n, _, _, h0, h1⟩ := trod_struct2 Try.underlying35 h
    rw [c0] at h0
    rw [c1] at h1
    obtain ⟨s, e0, _, w0⟩ := DataW.trod_string Try.underlying9 h0
    obtain ⟨m, e1, _, w1⟩ := DataW.trod_int Try.underlying3 h1
    simp at e0 e1
    subst e0 e1
    exact ⟨⟨s, m⟩, k35_mk w _, w0, w1⟩⟩
/-- A merge, as an element. -/
theorem opens_S45 {H : Type} {enc : TypeId × Value → H} {w : World} : Go.Proofs.Ytbfjlfbahjmibaa.Open.Opens enc Try.prog w 45 k45 (fun x => x.f0.size ≤ maxLen ∧ x.f1.size ≤ maxLen) :=
  ⟨fun _ cs _ h => by
    have c0 : Try.prog.cellsOf 9 = 1 := by kernel_rfl
    have hlen : cs.length = 2 := by
      obtain ⟨_, _, _, _, hl, _⟩ := DataW.trod_struct Try.underlying45 h
      exact hl.trans (by kernel_rfl)
    obtain ⟨a, b, rfl⟩ : ∃ a b, cs = [a, b] := by
      match cs, hlen with
      | [a, b], _ => exact ⟨a, b, rfl⟩
    obtain ⟨y0, y1, n, _, _, h0, h1⟩ := trod_struct2 Try.underlying45 h
    rw [c0] at h0 h1
    obtain ⟨s, e0, _, w0⟩ := DataW.trod_string Try.underlying9 h0
    obtain ⟨m, e1, _, w1⟩ := DataW.trod_string Try.underlying9 h1
    simp at e0 e1
    subst e0 e1
    exact ⟨⟨s, m⟩, k45_mk w _, w0, w1⟩⟩
/-- A merge, as an argument. -/
theorem open_arg_S45 {H : Type} {enc : TypeId × Value → H} {w : World} {base : Nat} {spare : Nat → Bool} {held : Bool} {r : Reach} {b0 : Nat} {v : Value} {d : DataW H} {p : List MemPlace} (hval : Value.okWide Try.prog w r b0 45 v) (h : DataW.Trod enc Try.prog w base spare held 45 v d p) :
    ∃ a0 a1 : ByteArray, v = .agg #[.string a0, .string a1] ∧ a0.size ≤ maxLen ∧ a1.size ≤ maxLen := by
  have c0 : Try.prog.cellsOf 9 = 1 := by kernel_rfl
  obtain ⟨cs, rfl, hsz⟩ := okWide_struct Try.underlying45 hval
  have hsz2 : cs.size = 2 := hsz.trans (by kernel_rfl)
  obtain ⟨c1, c2, rfl⟩ : ∃ a b, cs = #[a, b] := by
    obtain ⟨l⟩ := cs
    match l, hsz2 with
    | [a, b], _ => exact ⟨a, b, rfl⟩
  obtain ⟨fuel, hf⟩ := h
  obtain ⟨y0, y1, n, _, _, h0, h1⟩ := trod_struct2 Try.underlying45 hf
  rw [c0] at h0 h1
  obtain ⟨s, e0, _, w0⟩ := DataW.trod_string Try.underlying9 h0
  obtain ⟨m, e1, _, w1⟩ := DataW.trod_string Try.underlying9 h1
  simp [Value.cells] at e0 e1
  subst e0 e1
  exact ⟨s, m, rfl, w0, w1⟩
end Go.Proofs.Ytbfjlfbahjmibaa.Pr
