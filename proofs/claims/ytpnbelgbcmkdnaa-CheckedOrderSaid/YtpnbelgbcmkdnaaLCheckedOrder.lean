/- The row of the law CheckedOrder: for every input that can be read the call returns true and leaves its arguments as they were. Conditions: those of the row alone. -/
import Derived.Test.YtpnbelgbcmkdnaaRows
import Derived.Test.YtpnbelgbcmkdnaaHLawCheckedOrder
import Derived.Test.YtpnbelgbcmkdnaaPuCheckedOrder
import Derived.Test.YtpnbelgbcmkdnaaOpen
import Derived.WalkKit
import Derived.ProofKit
import Derived.OpenShut
import Derived.ShutString
import Derived.ChangeOld
import Derived.Below
import Derived.SizedLaws
namespace Go.Proofs.Ytpnbelgbcmkdnaa.checkedOrder
open Go.ChangeShapes Go.WideShapes Go.ChangeAt Go.RowKit Go.Proofs.Ytpnbelgbcmkdnaa.Open
open Go.ChangeMaps (open_string shut_string)
set_option linter.unusedVariables false
theorem own : ownKnob Try.prog.godebug = none := by kernel_rfl
theorem laidOut : laidOutB Try.prog = true := by kernel_rfl
theorem walk (A0 : Option Addr) (c0 : Nat) (l0 : List (Int)) (A1 : Option Addr) (c1 : Nat) (l1 : List (Int)) (w : World) (hr0 : Go.Proofs.YtpnbelgbcmkdnaaW.PrintWords.Kd.C (Go.Proofs.YtpnbelgbcmkdnaaW.PrintWords.Kd.int .i64) w A0 l0.length l0) (hc0 : l0.length ≤ c0) (x0 : l0.length ≤ maxLen) (y0 : ∀ x ∈ l0, (Lit.int .i64 x).wf = true) (hr1 : Go.Proofs.YtpnbelgbcmkdnaaW.PrintWords.Kd.C (Go.Proofs.YtpnbelgbcmkdnaaW.PrintWords.Kd.int .u16) w A1 l1.length l1) (hc1 : l1.length ≤ c1) (x1 : l1.length ≤ maxLen) (y1 : ∀ x ∈ l1, (Lit.int .u16 x).wf = true) :
    Calls Try.prog 5 #[.slice A0 l0.length c0, .slice A1 l1.length c1] w fun e w' => e = .returned (.bool true) ∧ Below w.heap.size w w' := by
  obtain ⟨k, h⟩ := Pure.CheckedOrder l0 l1 x0 y0 x1 y1
  refine (Pr.gluepotlaw06_CheckedOrder.calls k A0 c0 l0 A1 c1 l1 true w hr0 hc0 hr1 hc1 h).mono ?_
  rintro e w' ⟨rfl, hd⟩
  exact ⟨rfl, hd⟩
set_option maxRecDepth 100000 in
theorem lifted (os : Os) (started : os.Started) (H : Type) (enc : TypeId × Value → H) :
    ReturnsInHanded {} Try.checked os 5 .any (Rows.checkedOrderSpec.pre6 enc Try.prog Try.f5 Rows.checkedOrderRow.domain false) (Rows.checkedOrderSpec.post enc Try.prog Try.f5 false true false false) := by
  refine returnsInHanded_of_change_sized (C := Try.checked) own started (by kernel_rfl) Try.func5
    (ChangeSpec.witness6 (enc := enc) (C := Try.checked) false ⟨#[], #[.slice none 0 0, .slice none 0 0], []⟩ 8 (by kernel_rfl) (by kernel_rfl) (by kernel_rfl) (by kernel_rfl)) ?_
  intro W base args ds gs before hval0 hW hcnd hsz0 _
  have hval : ∀ (j : Nat) t v, Try.f5.params[j]? = some t → args[j]? = some v → Value.okWide Try.prog W .any base t v := hval0
  have hW' := hW
  obtain ⟨p, q, hA0, hV, rfl, hfz, hnd⟩ := hW
  have hA : DataW.TrodAll enc Try.prog W 0 (fun _ => true) true Try.f5.params.toList args.toList ds p := hA0
  rw [Try.params5] at hA hval
  obtain ⟨v0, vs0, d0, ds0, p0, q0, hargs, rfl, rfl, h0, r0⟩ := trodAll_cons hA
  obtain ⟨v1, vs1, d1, ds1, p1, q1, rfl, rfl, rfl, h1, r1⟩ := trodAll_cons r0
  obtain ⟨rfl, rfl, rfl⟩ := trodAll_nil r1
  obtain rfl : args = #[v0, v1] := by cases args; simp_all
  obtain ⟨rfl, rfl⟩ := trodVars_none hV
  have k0 := h0
  have lt0 : ∀ x ∈ p0, x.block < W.heap.size := by obtain ⟨m, hm⟩ := k0; exact DataW.trod_lt m _ _ _ hm
  obtain ⟨A0, c0, l0, rfl, hc0, hr0, x0, y0⟩ := open_arg_slice Try.underlying29 (by kernel_rfl) (opens_int Try.underlying3) (hval 0 29 v0 rfl rfl) h0
  have k1 := h1
  have lt1 : ∀ x ∈ p1, x.block < W.heap.size := by obtain ⟨m, hm⟩ := k1; exact DataW.trod_lt m _ _ _ hm
  obtain ⟨A1, c1, l1, rfl, hc1, hr1, x1, y1⟩ := open_arg_slice Try.underlying30 (by kernel_rfl) (opens_int Try.underlying31) (hval 1 30 v1 rfl rfl) h1
  clear hA0 hval0 hsz0
  refine (walk A0 c0 l0 A1 c1 l1 W hr0 hc0 x0 y0 hr1 hc1 x1 y1).mono fun e W' ⟨he, bel⟩ => ?_
  subst he
  exact ⟨_, rfl, _, _, _, [], _, [], hW', trodAll_mk1 (shut_bool Try.underlying4 _), (trodAll_cons_mk (Below.trod laidOut (by kernel_rfl) (of_decide_eq_true (by kernel_rfl)) k0 bel lt0) (trodAll_cons_mk (Below.trod laidOut (by kernel_rfl) (of_decide_eq_true (by kernel_rfl)) k1 bel lt1) trodAll_mk0)), rfl, bel.frame _, fun h => by cases h⟩
theorem over : Rows.checkedOrderRow.holds Try.pinned (OpenSpec.ofChange Rows.checkedOrderSpec) :=
  OpenClaim.holds_of_wide 5 Try.f5 rfl rfl rfl rfl rfl rfl rfl ⟨rfl, rfl, rfl, rfl, rfl⟩ rfl rfl rfl rfl rfl (by kernel_rfl) Try.func5 (by kernel_rfl)
    (of_decide_eq_true (by kernel_rfl)) (by unfold Func.isWrapper; first | (rw [if_pos (by decide +kernel)]; kernel_rfl) | (rw [if_neg (by decide +kernel)]; exact ⟨rfl, rfl⟩))
    (fun os started H enc _ => lifted os started H enc)
theorem proved : Rows.CheckedOrderSaid := over
end Go.Proofs.Ytpnbelgbcmkdnaa.checkedOrder
namespace Go.Proofs.Ytpnbelgbcmkdnaa
theorem checkedOrder_holds : Rows.CheckedOrderSaid := checkedOrder.proved
#print axioms checkedOrder_holds
end Go.Proofs.Ytpnbelgbcmkdnaa
