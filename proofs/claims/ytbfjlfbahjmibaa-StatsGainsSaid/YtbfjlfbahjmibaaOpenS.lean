/- api.Stats (six numbers) as an argument, opened. -/
import Derived.Lib.SmallJoins
import Derived.ChangeShapes
import Derived.WideShapes
import Derived.KernelRfl
import Derived.Test.YtbfjlfbahjmibaaProg
import Derived.Test.YtbfjlfbahjmibaaOpen
import Derived.Test.YtbfjlfbahjmibaaPr0
namespace Go.Proofs.Ytbfjlfbahjmibaa.Pr
open Go.Joins Go.ChangeShapes Go.WideShapes
theorem array6 {α : Type} {cs : Array α} (h : cs.size = 6) : ∃ c0 c1 c2 c3 c4 c5, cs = #[c0, c1, c2, c3, c4, c5] := by
  obtain ⟨l⟩ := cs
  match l, h with
  | [c0, c1, c2, c3, c4, c5], _ => exact ⟨c0, c1, c2, c3, c4, c5, rfl⟩
section
variable {H : Type} {enc : TypeId × Value → H} {P : Program} {w : World} {base : Nat} {spare : Nat → Bool} {held : Bool}
theorem trod_struct6 {t : TypeId} {f0 f1 f2 f3 f4 f5 : Field} {fuel : Nat} {cs : List Value} {x : DataW H × List MemPlace} (ht : P.underlying t = some (.struct #[f0, f1, f2, f3, f4, f5])) (h : DataW.trod enc P w base spare held fuel t cs = some x) :
    ∃ y0 y1 y2 y3 y4 y5 n, DataW.trod enc P w base spare held n f0.type ((cs.drop f0.offset).take (P.cellsOf f0.type)) = some y0 ∧
      DataW.trod enc P w base spare held n f1.type ((cs.drop f1.offset).take (P.cellsOf f1.type)) = some y1 ∧ DataW.trod enc P w base spare held n f2.type ((cs.drop f2.offset).take (P.cellsOf f2.type)) = some y2 ∧
      DataW.trod enc P w base spare held n f3.type ((cs.drop f3.offset).take (P.cellsOf f3.type)) = some y3 ∧ DataW.trod enc P w base spare held n f4.type ((cs.drop f4.offset).take (P.cellsOf f4.type)) = some y4 ∧
      DataW.trod enc P w base spare held n f5.type ((cs.drop f5.offset).take (P.cellsOf f5.type)) = some y5 := by
  obtain ⟨xs, n, _, rfl, hl, hlen, hf⟩ := DataW.trod_struct ht h
  match xs, hlen with
  | [y0, y1, y2, y3, y4, y5], _ => exact ⟨y0, y1, y2, y3, y4, y5, n, by simpa using hf 0 f0 rfl, by simpa using hf 1 f1 rfl, by simpa using hf 2 f2 rfl, by simpa using hf 3 f3 rfl, by simpa using hf 4 f4 rfl, by simpa using hf 5 f5 rfl⟩
theorem open_arg_S54 {r : Reach} {b0 : Nat} {v : Value} {d : DataW H} {p : List MemPlace} (hval : Value.okWide Try.prog w r b0 54 v) (h : DataW.Trod enc Try.prog w base spare held 54 v d p) :
    ∃ a0 a1 a2 a3 a4 a5 : Int, v = .agg #[.int .i64 a0, .int .i64 a1, .int .i64 a2, .int .i64 a3, .int .i64 a4, .int .i64 a5] ∧ (Lit.int .i64 a0).wf = true ∧ (Lit.int .i64 a1).wf = true ∧ (Lit.int .i64 a2).wf = true ∧ (Lit.int .i64 a3).wf = true ∧ (Lit.int .i64 a4).wf = true ∧ (Lit.int .i64 a5).wf = true := by
  have c1 : Try.prog.cellsOf 3 = 1 := by kernel_rfl
  obtain ⟨cs, rfl, hsz⟩ := okWide_struct Try.underlying54 hval
  obtain ⟨c0, c1', c2, c3, c4, c5, rfl⟩ := array6 (hsz.trans (by kernel_rfl))
  obtain ⟨fuel, hf⟩ := h
  obtain ⟨y0, y1, y2, y3, y4, y5, n, h0, h1, h2, h3, h4, h5⟩ := trod_struct6 Try.underlying54 hf
  rw [c1] at h0
  obtain ⟨a0, e0, _, w0⟩ := DataW.trod_int Try.underlying3 h0
  simp [Value.cells] at e0
  subst e0
  rw [c1] at h1
  obtain ⟨a1, e1, _, w1⟩ := DataW.trod_int Try.underlying3 h1
  simp [Value.cells] at e1
  subst e1
  rw [c1] at h2
  obtain ⟨a2, e2, _, w2⟩ := DataW.trod_int Try.underlying3 h2
  simp [Value.cells] at e2
  subst e2
  rw [c1] at h3
  obtain ⟨a3, e3, _, w3⟩ := DataW.trod_int Try.underlying3 h3
  simp [Value.cells] at e3
  subst e3
  rw [c1] at h4
  obtain ⟨a4, e4, _, w4⟩ := DataW.trod_int Try.underlying3 h4
  simp [Value.cells] at e4
  subst e4
  rw [c1] at h5
  obtain ⟨a5, e5, _, w5⟩ := DataW.trod_int Try.underlying3 h5
  simp [Value.cells] at e5
  subst e5
  exact ⟨a0, a1, a2, a3, a4, a5, rfl, w0, w1, w2, w3, w4, w5⟩
end
/-- A word with its count, as an element. -/
theorem opens_S35 {H : Type} {enc : TypeId × Value → H} {w : World} : Go.Proofs.Ytbfjlfbahjmibaa.Open.Opens enc Try.prog w 35 k35 (fun x => x.f0.size ≤ maxLen ∧ (Lit.int .i64 x.f1).wf = true) :=
  ⟨fun _ cs _ h => by
    have c0 : Try.prog.cellsOf 9 = 1 := by kernel_rfl
    have c1 : Try.prog.cellsOf 3 = 1 := by kernel_rfl
    have hlen : cs.length = 2 := by
      obtain ⟨_, _, _, _, hl, _⟩ := DataW.trod_struct Try.underlying35 h
      exact hl.trans (by kernel_rfl)
    obtain ⟨a, b, rfl⟩ : ∃ a b, cs = [a, b] := by
      match cs, hlen with
      | [a, b], _ => exact ⟨a, b, rfl⟩
    obtain ⟨y0, y1, n, _, _, h0, h1⟩ := trod_struct2 Try.underlying35 h
    rw [c0] at h0
    rw [c1] at h1
    obtain ⟨s, e0, _, w0⟩ := DataW.trod_string Try.underlying9 h0
    obtain ⟨m, e1, _, w1⟩ := DataW.trod_int Try.underlying3 h1
    simp at e0 e1
    subst e0 e1
    exact ⟨⟨s, m⟩, k35_mk w _, w0, w1⟩⟩
/-- A merge, as an element. -/
theorem opens_S45 {H : Type} {enc : TypeId × Value → H} {w : World} : Go.Proofs.Ytbfjlfbahjmibaa.Open.Opens enc Try.prog w 45 k45 (fun x => x.f0.size ≤ maxLen ∧ x.f1.size ≤ maxLen) :=
  ⟨fun _ cs _ h => by
    have c0 : Try.prog.cellsOf 9 = 1 := by kernel_rfl
    have hlen : cs.length = 2 := by
      obtain ⟨_, _, _, _, hl, _⟩ := DataW.trod_struct Try.underlying45 h
      exact hl.trans (by kernel_rfl)
    obtain ⟨a, b, rfl⟩ : ∃ a b, cs = [a, b] := by
      match cs, hlen with
      | [a, b], _ => exact ⟨a, b, rfl⟩
    obtain ⟨y0, y1, n, _, _, h0, h1⟩ := trod_struct2 Try.underlying45 h
    rw [c0] at h0 h1
    obtain ⟨s, e0, _, w0⟩ := DataW.trod_string Try.underlying9 h0
    obtain ⟨m, e1, _, w1⟩ := DataW.trod_string Try.underlying9 h1
    simp at e0 e1
    subst e0 e1
    exact ⟨⟨s, m⟩, k45_mk w _, w0, w1⟩⟩
end Go.Proofs.Ytbfjlfbahjmibaa.Pr
