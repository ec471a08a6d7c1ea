/- gluepotlaw04.awake; the law SourceKinds, walked. -/
import Derived.Test.YtmldibphbilghaaSource2
import Derived.Lib.SlBytesRow
import Derived.Lib.BufferRead
namespace Go.Proofs.Ytmldibphbilghaa.Src
open Go.RowKit Go.Proofs.Ytmldibphbilghaa.Bs Go.Proofs.YtmldibphbilghaaW.PrintWords
set_option linter.unusedVariables false
set_option linter.unusedSimpArgs false
/-- What Next hands back: its bytes lie there, in a row that may be written. -/
theorem Hands.some {w0 w' : World} {e : Ending} {s : ByteArray} {err : Int} (h : Hands w0 e w' (some s) err) : ∃ cp, e = .returned (.tuple #[.slice (some ⟨w0.heap.size, 0, none⟩) s.size cp, .bool true, .int .i64 err]) ∧ Lib.Bytes w' w0.heap.size 0 s ∧
    ∃ cs : Array Value, w'.heap[w0.heap.size]? = some (.cells cs 5 (cs.size, cs.size + 1)) ∧ s.size ≤ cs.size := by
  obtain ⟨cp, rfl, hh⟩ := h
  refine ⟨cp, rfl, fun i hi => ?_, _, hh, by have : s.data.size = s.size := rfl; simp [Lib.bytesCells]⟩
  rw [Nat.zero_add, bytes_cell hh i hi]
  congr 3
  simp [List.getD, hi]
  rfl
theorem lit_two (w : World) (s t : ByteArray) : Kd.C Kd.string (w.alloc (.cells #[.string s, .string t] 9)) (some ⟨w.heap.size, 0, none⟩) 2 [s, t] := by
  have ho : (w.alloc (.cells #[.string s, .string t] 9)).ownsRow 0 9 1 (.slice (some ⟨w.heap.size, 0, none⟩) [s, t].length 2) [s, t].length (encs Value.string [s, t]) :=
    ⟨rfl, .inr ⟨_, _, _, rfl, Nat.zero_le _, heap_new w _, Nat.le_refl _, by unfold maxLen; omega, rfl, rfl⟩⟩
  have hR : Kd.R Kd.string 9 (w.alloc (.cells #[.string s, .string t] 9)) 0 (fun _ => True) (.slice (some ⟨w.heap.size, 0, none⟩) [s, t].length 2) [s, t] := Kd.R_of_own ho (fun _ _ => trivial)
  obtain ⟨A, c, he, _, hC⟩ := Kd.R_reads hR
  cases he
  exact hC
theorem bytes_fr2 {S : Nat → Prop} {w w' : World} {g o : Nat} {s : ByteArray} (h : Lib.Bytes w g o s) (hf : Fr S w w') (hS : ¬ S g) : Lib.Bytes w' g o s := fun i hi => hf.cell (h i hi) hS
end Go.Proofs.Ytmldibphbilghaa.Src
namespace Go.Proofs.Ytmldibphbilghaa.Pr
open Go.RowKit Go.Proofs.Ytmldibphbilghaa.Bs Go.Proofs.YtmldibphbilghaaW.PrintWords Go.Proofs.YtmldibphbilghaaW.PrintLast Go.Proofs.YtmldibphbilghaaW.PrintMore
set_option linter.unusedVariables false
set_option linter.unusedSimpArgs false
theorem ab1 : Src.nxt 1 0 ([mkB [97], mkB [98]].drop 0) = (some (mkB [97]), 0, 1) := by decide +kernel
theorem ab2 : Src.nxt 1 1 ([mkB [97], mkB [98]].drop 1) = (none, 3, 1) := by decide +kernel
def gluepotlaw04_awake.f : Option Bool := some true
set_option maxHeartbeats 2000000 in
set_option maxRecDepth 100000 in
theorem gluepotlaw04_awake.calls (r : Bool) (w : World) (h : gluepotlaw04_awake.f = some r) :
    Calls Try.prog 27 #[] w fun e w' => e = .returned (.bool r) ∧ Below w.heap.size w w' := by
  cases h
  have hcv := fun W => Lib.run_convert_whole (P := Try.prog) W 31 5 9 Try.underlying31 Try.underlying5 Try.underlying9
  go_enter Try.func27, Try.ntmps27
  go_wp2_with fail
  refine (Src.new_c _ 2 [mkB [97], mkB [98]] 1 _ (Src.lit_two w _ _) (by simp)).mono ?_
  rintro e w1 ⟨b, ob, rfl, hs, hf⟩
  have hf1 : Fr (fun _ => False) w w1 := ((Fr.refl _ w).alloc _).trans hf (fun _ h => h.elim)
  have HS := Lib.hid hs
  have HF := Lib.hid hf1
  have hwb : w.heap.size ≤ b := Nat.le_trans (by simp) hs.le
  clear hs hf hf1
  go_wp2_with fail
  refine (Src.next_c _ _ _ _ _ _ _ HS.out (by simp) (by simp)).mono ?_
  rintro e w2 ⟨w0, hw0, hh, hs2, hf2⟩
  rw [ab1] at hh hs2
  obtain ⟨cp, rfl, hby, _⟩ := hh.some
  have hsz : (mkB [97]).size = 1 := rfl
  rw [hsz]
  obtain ⟨g, hg⟩ : ∃ g, g = w0.heap.size := ⟨_, rfl⟩
  rw [← hg] at hby ⊢
  have hgb : g ≠ b := by have := HS.out.lt; omega
  have HS2 := Lib.hid hs2
  have HF2 := Lib.hid (HF.out.trans hf2 (fun k hk => .inr (by rw [hk]; exact hwb)))
  have HBY := Lib.hid hby
  clear hs2 hf2 hby hh hg hw0 HS
  go_wp2_with fail
  refine (Src.next_c _ _ _ _ _ _ _ HS2.out (by simp) (by simp)).mono ?_
  rintro e w3 ⟨w4, hw4, hh, hs3, hf3⟩
  rw [ab2] at hh
  have := hh
  unfold Src.Hands at this
  subst this
  have hby3 := Src.bytes_fr2 HBY.out hf3 hgb
  have hc3 := hcv w3 g 0 _ hby3 cp
  rw [hsz] at hc3
  have HF3 := Lib.hid (HF2.out.trans hf3 (fun k hk => .inr (by rw [hk]; exact hwb)))
  have htl : (mkB [97]).toList = [97] := by rw [ByteArray.toList_eq]; rfl
  clear hh hs3 hf3 hby3 HBY
  go_wp2_with fail
  go_ret
  exact ⟨by rfl, HF3.out.toBelow (fun _ h => h.elim) (Nat.le_refl _)⟩
def gluepotlaw04_SourceKinds.f (a0 : Int) (a1 : ByteArray) : Option Bool := some true
set_option maxHeartbeats 2000000 in
set_option maxRecDepth 100000 in
theorem gluepotlaw04_SourceKinds.calls (a0 : Int) (a1 : ByteArray) (r : Bool) (w : World) (h : gluepotlaw04_SourceKinds.f a0 a1 = some r) :
    Calls Try.prog 8 #[.int .i64 a0, .string a1] w fun e w' => e = .returned (.bool r) ∧ Below w.heap.size w w' := by
  cases h
  go_enter Try.func8, Try.ntmps8
  go_wp2_with fail
  refine (gluepotlaw04_awake.calls true _ rfl).mono ?_
  rintro e w1 ⟨rfl, hb1⟩
  have HB1 := Lib.hid hb1
  clear hb1
  go_wp2_with fail
  refine (Src.all_int _ _).mono ?_
  rintro e w2 ⟨rfl, rfl⟩
  go_wp2_with fail
  refine (Src.all_none _).mono ?_
  rintro e w2 ⟨rfl, rfl⟩
  go_wp2_with fail
  refine (Src.all_str _ _).mono ?_
  rintro e w2 ⟨rfl, rfl⟩
  go_wp2_with fail
  refine (Src.sz_str _ _).mono ?_
  rintro e w2 ⟨rfl, rfl⟩
  go_wp2_with fail
  refine (Src.sz_none _).mono ?_
  rintro e w2 ⟨rfl, rfl⟩
  go_wp2_with fail
  refine (Src.next_nil _).mono ?_
  rintro e w2 ⟨rfl, rfl⟩
  go_wp2_with fail
  refine (Src.plain_nil _).mono ?_
  rintro e w2 ⟨rfl, rfl⟩
  go_wp2_with fail
  refine (Src.size_nil _).mono ?_
  rintro e w2 ⟨rfl, rfl⟩
  go_wp2_with fail
  go_ret
  exact ⟨rfl, HB1.out⟩
end Go.Proofs.Ytmldibphbilghaa.Pr
