/- The row of the law NaiveBest: for every input that can be read the call returns true and leaves its arguments as they were. Conditions: those of the row alone. -/
import Derived.Test.YtbfjlfbahjmibaaRows
import Derived.Test.YtbfjlfbahjmibaaPr48
import Derived.Test.YtbfjlfbahjmibaaPuNaiveBest
import Derived.Test.YtbfjlfbahjmibaaOpenS
import Derived.WalkKit
import Derived.ProofKit
import Derived.OpenShut
import Derived.ShutString
import Derived.ChangeOld
import Derived.Below
import Derived.SizedLaws
namespace Go.Proofs.Ytbfjlfbahjmibaa.naiveBest
open Go.ChangeShapes Go.WideShapes Go.ChangeAt Go.RowKit Go.Proofs.Ytbfjlfbahjmibaa.Open
open Go.ChangeMaps (open_string shut_string)
set_option linter.unusedVariables false
theorem own : ownKnob Try.prog.godebug = none := by kernel_rfl
theorem laidOut : laidOutB Try.prog = true := by kernel_rfl
theorem walk (A0 : Option Addr) (c0 : Nat) (l0 : List (List (ByteArray))) (A1 : Option Addr) (c1 : Nat) (l1 : List (Int)) (a2_0 : ByteArray) (a2_1 : ByteArray) (w : World) (hr0 : Go.Proofs.YtbfjlfbahjmibaaW.PrintWords.Kd.C (Go.Proofs.YtbfjlfbahjmibaaW.PrintWords.Kd.slice 9 Go.Proofs.YtbfjlfbahjmibaaW.PrintWords.Kd.string) w A0 l0.length l0) (hc0 : l0.length ≤ c0) (x0 : l0.length ≤ maxLen) (y0 : ∀ x ∈ l0, x.length ≤ maxLen ∧ ∀ y ∈ x, y.size ≤ maxLen) (hr1 : Go.Proofs.YtbfjlfbahjmibaaW.PrintWords.Kd.C (Go.Proofs.YtbfjlfbahjmibaaW.PrintWords.Kd.int .i64) w A1 l1.length l1) (hc1 : l1.length ≤ c1) (x1 : l1.length ≤ maxLen) (y1 : ∀ x ∈ l1, (Lit.int .i64 x).wf = true) (w2_0 : a2_0.size ≤ maxLen) (w2_1 : a2_1.size ≤ maxLen) :
    Calls Try.prog 6 #[.slice A0 l0.length c0, .slice A1 l1.length c1, .agg #[.string a2_0, .string a2_1]] w fun e w' => e = .returned (.bool true) ∧ Below w.heap.size w w' := by
  obtain ⟨k, h⟩ := Pure.NaiveBest l0 l1 a2_0 a2_1 x0 y0 x1 y1 w2_0 w2_1
  refine (Pr.gluepotlaw16_NaiveBest.calls k A0 c0 l0 A1 c1 l1 a2_0 a2_1 true w hr0 hc0 hr1 hc1 h).mono ?_
  rintro e w' ⟨rfl, hd⟩
  exact ⟨rfl, hd⟩
set_option maxRecDepth 100000 in
theorem lifted (os : Os) (started : os.Started) (H : Type) (enc : TypeId × Value → H) :
    ReturnsInHanded {} Try.checked os 6 .any (Rows.naiveBestSpec.pre6 enc Try.prog Try.f6 Rows.naiveBestRow.domain false) (Rows.naiveBestSpec.post enc Try.prog Try.f6 false true false false) := by
  refine returnsInHanded_of_change_sized (C := Try.checked) own started (by kernel_rfl) Try.func6
    (ChangeSpec.witness6 (enc := enc) (C := Try.checked) false ⟨#[], #[.slice none 0 0, .slice none 0 0, .agg #[.string ByteArray.empty, .string ByteArray.empty]], []⟩ 8 (by kernel_rfl) (by kernel_rfl) (by kernel_rfl) (by kernel_rfl)) ?_
  intro W base args ds gs before hval0 hW hcnd hsz0 _
  have hval : ∀ (j : Nat) t v, Try.f6.params[j]? = some t → args[j]? = some v → Value.okWide Try.prog W .any base t v := hval0
  have hW' := hW
  obtain ⟨p, q, hA0, hV, rfl, hfz, hnd⟩ := hW
  have hA : DataW.TrodAll enc Try.prog W 0 (fun _ => true) true Try.f6.params.toList args.toList ds p := hA0
  rw [Try.params6] at hA hval
  obtain ⟨v0, vs0, d0, ds0, p0, q0, hargs, rfl, rfl, h0, r0⟩ := trodAll_cons hA
  obtain ⟨v1, vs1, d1, ds1, p1, q1, rfl, rfl, rfl, h1, r1⟩ := trodAll_cons r0
  obtain ⟨v2, vs2, d2, ds2, p2, q2, rfl, rfl, rfl, h2, r2⟩ := trodAll_cons r1
  obtain ⟨rfl, rfl, rfl⟩ := trodAll_nil r2
  obtain rfl : args = #[v0, v1, v2] := by cases args; simp_all
  obtain ⟨rfl, rfl⟩ := trodVars_none hV
  have k0 := h0
  have lt0 : ∀ x ∈ p0, x.block < W.heap.size := by obtain ⟨m, hm⟩ := k0; exact DataW.trod_lt m _ _ _ hm
  obtain ⟨A0, c0, l0, rfl, hc0, hr0, x0, y0⟩ := open_arg_slice Try.underlying43 (by kernel_rfl) (opens_slice Try.underlying46 (by kernel_rfl) (opens_string Try.underlying9) 9) (hval 0 43 v0 rfl rfl) h0
  have k1 := h1
  have lt1 : ∀ x ∈ p1, x.block < W.heap.size := by obtain ⟨m, hm⟩ := k1; exact DataW.trod_lt m _ _ _ hm
  obtain ⟨A1, c1, l1, rfl, hc1, hr1, x1, y1⟩ := open_arg_slice Try.underlying31 (by kernel_rfl) (opens_int Try.underlying3) (hval 1 31 v1 rfl rfl) h1
  have k2 := h2
  have lt2 : ∀ x ∈ p2, x.block < W.heap.size := by obtain ⟨m, hm⟩ := k2; exact DataW.trod_lt m _ _ _ hm
  obtain ⟨a2_0, a2_1, rfl, w2_0, w2_1⟩ := Pr.open_arg_S45 (hval 2 45 v2 rfl rfl) h2
  clear hA0 hval0 hsz0
  refine (walk A0 c0 l0 A1 c1 l1 a2_0 a2_1 W hr0 hc0 x0 y0 hr1 hc1 x1 y1 w2_0 w2_1).mono fun e W' ⟨he, bel⟩ => ?_
  subst he
  exact ⟨_, rfl, _, _, _, [], _, [], hW', trodAll_mk1 (shut_bool Try.underlying4 _), (trodAll_cons_mk (Below.trod laidOut (by kernel_rfl) (of_decide_eq_true (by kernel_rfl)) k0 bel lt0) (trodAll_cons_mk (Below.trod laidOut (by kernel_rfl) (of_decide_eq_true (by kernel_rfl)) k1 bel lt1) (trodAll_cons_mk (Below.trod laidOut (by kernel_rfl) (of_decide_eq_true (by kernel_rfl)) k2 bel lt2) trodAll_mk0))), rfl, bel.frame _, fun h => by cases h⟩
theorem over : Rows.naiveBestRow.holds Try.pinned (OpenSpec.ofChange Rows.naiveBestSpec) :=
  OpenClaim.holds_of_wide 6 Try.f6 rfl rfl rfl rfl rfl rfl rfl ⟨rfl, rfl, rfl, rfl, rfl⟩ rfl rfl rfl rfl rfl (by kernel_rfl) Try.func6 (by kernel_rfl)
    (of_decide_eq_true (by kernel_rfl)) (by unfold Func.isWrapper; first | (rw [if_pos (by decide +kernel)]; kernel_rfl) | (rw [if_neg (by decide +kernel)]; exact ⟨rfl, rfl⟩))
    (fun os started H enc _ => lifted os started H enc)
theorem proved : Rows.NaiveBestSaid := over
end Go.Proofs.Ytbfjlfbahjmibaa.naiveBest
namespace Go.Proofs.Ytbfjlfbahjmibaa
theorem naiveBest_holds : Rows.NaiveBestSaid := naiveBest.proved
#print axioms naiveBest_holds
end Go.Proofs.Ytbfjlfbahjmibaa
