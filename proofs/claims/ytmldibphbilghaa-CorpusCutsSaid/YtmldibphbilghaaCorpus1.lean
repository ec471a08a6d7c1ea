/- corpus.hand, with any function that is handed words; Each, of any source. -/
import Derived.Test.YtmldibphbilghaaSource5
namespace Go.Proofs.Ytmldibphbilghaa.Cor
open Go.RowKit Go.Proofs.Ytmldibphbilghaa.Bs Go.Proofs.YtmldibphbilghaaW.PrintWords
set_option linter.unusedVariables false
set_option linter.unusedSimpArgs false
/-- What hand does with the words l, the words ws having been handed: how many, does it go on, which words have been handed. -/
def handL (cont : List ByteArray → ByteArray → Bool) : List ByteArray → List ByteArray → Nat → Nat × Bool × List ByteArray
  | ws, [], i => (i, true, ws)
  | ws, x :: r, i => if cont ws x = true then handL cont (ws ++ [x]) r (i + 1) else (i + 1, false, ws ++ [x])
/-- A function value that is handed words: its state, where that lies (M), and its call. -/
structure CB (nf : Nat) (caps : Array Value) (cont : List ByteArray → ByteArray → Bool) where
  St : List ByteArray → (Nat → Prop) → World → Prop
  keep : ∀ {ws M W W' S}, St ws M W → Fr S W W' → (∀ k, M k → ¬ S k) → St ws M W'
  lt : ∀ {ws M W}, St ws M W → ∀ k, M k → k < W.heap.size
  enter : ∀ args W, (callFunc nf args).run Try.prog W = .ok (.enter nf args) W
  call : ∀ ws M W x, St ws M W → ws.length ≤ 1000000 → Calls Try.prog nf (#[.string x] ++ caps) W fun e W' => e = .returned (.bool (cont ws x)) ∧ ∃ M', St (ws ++ [x]) M' W' ∧ Fr M W W' ∧ ∀ k, M' k → M k ∨ W.heap.size ≤ k
theorem func_ne (nf : Nat) (caps : Array Value) (W : World) : (binOp .neq 61 (.func (.func nf) #[] caps) .nilFunc).run Try.prog W = .ok (.bool true) W := by kernel_rfl
theorem func_nil (W : World) : (binOp .neq 61 .nilFunc .nilFunc).run Try.prog W = .ok (.bool false) W := by kernel_rfl
set_option maxHeartbeats 1000000 in
set_option maxRecDepth 100000 in
theorem hand_cb {nf : Nat} {caps : Array Value} {cont : List ByteArray → ByteArray → Bool} (F : CB nf caps cont) (A : Option Addr) (c : Nat) (l : List ByteArray) (ws : List ByteArray) (M : Nat → Prop) (w : World)
    (hl : Kd.C Kd.string w A l.length l) (hst : F.St ws M w) (hM : ∀ ad, A = some ad → ¬ M ad.block) (hbig : ws.length + l.length ≤ 1000000) :
    Calls Try.prog 49 #[.slice A l.length c, .func (.func nf) #[] caps] w fun e w' => e = .returned (.tuple #[.int .i64 (handL cont ws l 0).1, .bool (handL cont ws l 0).2.1]) ∧ ∃ M', F.St (handL cont ws l 0).2.2 M' w' ∧ Fr M w w' ∧ ∀ k, M' k → M k ∨ w.heap.size ≤ k := by
  have HL := Lib.hid hl
  have HST := Lib.hid hst
  have hne := func_ne nf caps
  have hen := F.enter
  clear hl hst
  go_enter Try.func49, Try.ntmps49
  go_wp2_with fail
  go_loopw [10] (fun v10 wr => ∃ (i : Nat) (ws' : List ByteArray) (M' : Nat → Prop), i ≤ l.length ∧ v10 = .int .i64 i ∧ handL cont ws' (l.drop i) i = handL cont ws l 0 ∧ ws'.length = ws.length + i ∧ F.St ws' M' wr ∧ Fr M w wr ∧ ∀ k, M' k → M k ∨ w.heap.size ≤ k) (fun v10 _ => l.length - (intOf v10).toNat)
  case atStart => exact ⟨0, ws, M, Nat.zero_le _, rfl, rfl, rfl, HST.out, Fr.refl _ _, fun k hk => .inl hk⟩
  case round =>
    obtain ⟨i, ws', M', hi, rfl, hh, hwl, hst, hfr, hm⟩ := hrel
    have HH := Lib.hid hh
    have HS := Lib.hid hst
    have HF := Lib.hid hfr
    have HM := Lib.hid hm
    clear hh hst hfr hm
    by_cases hlt : i < l.length
    · have hd : l.drop i = l[i] :: l.drop (i + 1) := List.drop_eq_getElem_cons hlt
      obtain ⟨g, o, rfl, hc⟩ := Src.row_cells HL.out (by omega)
      have hc1 := HF.out.cell (hc i hlt) (hM ⟨g, o, none⟩ rfl)
      rw [show l.getD i ByteArray.empty = l[i] by simp [List.getD, hlt]] at hc1
      have HD := Lib.hid hd
      have HWL := Lib.hid hwl
      clear hc hd hwl
      generalize hpc : l[i] = pc at *
      have hcl := F.call ws' M' wr pc HS.out (by have := HWL.out; omega)
      have HCL := Lib.hid hcl
      clear hcl
      cases hct : cont ws' pc with
      | true =>
        rw [hct] at HCL
        go_wp2_with fail
        refine HCL.out.mono ?_
        rintro e w1 ⟨rfl, M1, hs1, hf1, hm1⟩
        have HS1 := Lib.hid hs1
        have HF1 := Lib.hid (HF.out.trans hf1 (fun k hk => HM.out k hk))
        have HM1 := Lib.hid (show ∀ k, M1 k → M k ∨ w.heap.size ≤ k from fun k hk => (hm1 k hk).elim (fun h => HM.out k h) (fun h => .inr (Nat.le_trans HF.out.size h)))
        clear hs1 hf1 hm1 HCL
        go_wp2_with fail
        go_roundw
        case rel => exact ⟨i + 1, ws' ++ [pc], M1, by omega, by go_num, by rw [← HH.out, HD.out, handL, if_pos hct], by rw [List.length_append, HWL.out]; simp; omega, HS1.out, HF1.out, HM1.out⟩
        case measure => simp [intOf]; omega
      | false =>
        rw [hct] at HCL
        go_wp2_with fail
        refine HCL.out.mono ?_
        rintro e w1 ⟨rfl, M1, hs1, hf1, hm1⟩
        have HS1 := Lib.hid hs1
        have HF1 := Lib.hid (HF.out.trans hf1 (fun k hk => HM.out k hk))
        have HM1 := Lib.hid (show ∀ k, M1 k → M k ∨ w.heap.size ≤ k from fun k hk => (hm1 k hk).elim (fun h => HM.out k h) (fun h => .inr (Nat.le_trans HF.out.size h)))
        clear hs1 hf1 hm1 HCL
        go_wp2_with fail
        go_ret2
        have hx : handL cont ws l 0 = (i + 1, false, ws' ++ [pc]) := by rw [← HH.out, HD.out, handL, if_neg (by rw [hct]; simp)]
        rw [hx]
        exact ⟨rfl, M1, HS1.out, HF1.out, HM1.out⟩
    · have hil : i = l.length := by omega
      have hx : handL cont ws l 0 = (l.length, true, ws') := by rw [← HH.out, hil, List.drop_length, handL]
      have HX := Lib.hid hx
      clear hx hil
      go_wp2_with fail
      go_ret2
      rw [HX.out]
      exact ⟨rfl, M', HS.out, HF.out, HM.out⟩
end Go.Proofs.Ytmldibphbilghaa.Cor
