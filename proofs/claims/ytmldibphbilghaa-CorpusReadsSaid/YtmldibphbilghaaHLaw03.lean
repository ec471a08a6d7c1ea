/- gluepotlaw03.awake: the document's example holds. -/
import Derived.Test.YtmldibphbilghaaHSplit
import Derived.Lib.SlBytesConst
import Derived.Test.YtmldibphbilghaaPr10
namespace Go.Proofs.Ytmldibphbilghaa.Pr
open Go.RowKit Go.Proofs.Ytmldibphbilghaa.Bs Go.Proofs.YtmldibphbilghaaW.PrintWords Go.Proofs.YtmldibphbilghaaW.PrintLast Go.Proofs.YtmldibphbilghaaW.PrintMore
set_option linter.unusedVariables false
set_option linter.unusedSimpArgs false

/-- A piece that '[]byte(s)' has just laid. -/
theorem piece_new (w : World) (b : Nat) (ob : Option Nat) (s : ByteArray) (hb : b < w.heap.size) (ho : ∀ g, ob = some g → g < w.heap.size) :
    Spl.Piece (Lib.bytesWorld w 5 s) b ob (some ⟨w.heap.size, 0, none⟩) s.data.toList := by
  intro _
  refine ⟨w.heap.size, 0, rfl, by omega, fun e => by have := ho _ e; omega, fun j hj => ?_⟩
  rw [Nat.zero_add]
  exact bytes_cell (Lib.bytesWorld_at_new w 5 s) j (by simpa using hj)
/-- Feed of a text's bytes. -/
theorem feed_text (B b : Nat) (ob : Option Nat) (lim : Int) (bs : List UInt8) (s : ByteArray) (cp : Nat) (w : World) (h : Spl.At B b ob lim bs false w) (hBw : B ≤ w.heap.size) (hbig : bs.length + s.size ≤ 1000000000) :
    Calls Try.prog 18 #[.pointer (some ⟨b, 0, none⟩), .slice (some ⟨w.heap.size, 0, none⟩) s.size cp] (Lib.bytesWorld w 5 s) fun e w' => ∃ v ob', e = .returned (.tuple #[v, .bool (Spl.feedL lim bs s.data.toList []).2.1]) ∧
      w'.ownsRow w.heap.size Spl.TX 1 v (Spl.feedL lim bs s.data.toList []).1.length (Spl.strs (Spl.feedL lim bs s.data.toList []).1) ∧ Spl.At B b ob' lim (Spl.feedL lim bs s.data.toList []).2.2 (!(Spl.feedL lim bs s.data.toList []).2.1) w' ∧
      Fr (Spl.Foot b ob) w w' := by
  have hlen : s.data.toList.length = s.size := by simp only [Array.length_toList]; rfl
  have hfb := bytes_fr w 5 s
  have hat1 := h.fr hfb (fun h => h) (fun _ _ h => h)
  have hf := Spl.feed_c B b ob lim bs (some ⟨w.heap.size, 0, none⟩) cp s.data.toList _ hat1 (piece_new w b ob s h.lt (fun g hg => (h.row hg).2.1)) (Nat.le_trans hBw hfb.size) (by rw [hlen]; exact hbig)
  rw [hlen] at hf
  refine hf.mono ?_
  rintro e w2 ⟨v, ob', rfl, hown, hat2, hmv, hfr2⟩
  exact ⟨v, ob', rfl, own_weaken hown hfb.size, hat2, (hfb.mono (fun _ h => h.elim)).trans hfr2 (fun i hi => .inl hi)⟩

/-- Feed of a literal's bytes. -/
theorem feed_lit (B b : Nat) (ob : Option Nat) (lim : Int) (bs : List UInt8) (xs : List UInt8) (cp : Nat) (fz : Nat × Nat) (w : World) (h : Spl.At B b ob lim bs false w) (hBw : B ≤ w.heap.size) (hbig : bs.length + xs.length ≤ 1000000000) :
    Calls Try.prog 18 #[.pointer (some ⟨b, 0, none⟩), .slice (some ⟨w.heap.size, 0, none⟩) xs.length cp] (w.alloc (.cells (Spl.cells xs).toArray Spl.T8 fz)) fun e w' => ∃ v ob', e = .returned (.tuple #[v, .bool (Spl.feedL lim bs xs []).2.1]) ∧
      w'.ownsRow w.heap.size Spl.TX 1 v (Spl.feedL lim bs xs []).1.length (Spl.strs (Spl.feedL lim bs xs []).1) ∧ Spl.At B b ob' lim (Spl.feedL lim bs xs []).2.2 (!(Spl.feedL lim bs xs []).2.1) w' ∧
      Fr (Spl.Foot b ob) w w' := by
  have hfb : Fr (fun _ => False) w (w.alloc (.cells (Spl.cells xs).toArray Spl.T8 fz)) := (Fr.refl _ w).alloc _
  have hat1 := h.fr hfb (fun h => h) (fun _ _ h => h)
  have hp : Spl.Piece (w.alloc (.cells (Spl.cells xs).toArray Spl.T8 fz)) b ob (some ⟨w.heap.size, 0, none⟩) xs := by
    intro _
    refine ⟨w.heap.size, 0, rfl, fun e => by have := h.lt; omega, fun e => by have := (h.row e).2.1; omega, fun j hj => ?_⟩
    rw [cell_heap (heap_new w _), Nat.zero_add]
    simp [Spl.cells, List.getD, hj]
  have hf := Spl.feed_c B b ob lim bs (some ⟨w.heap.size, 0, none⟩) cp xs _ hat1 hp (Nat.le_trans hBw hfb.size) hbig
  refine hf.mono ?_
  rintro e w2 ⟨v, ob', rfl, hown, hat2, hmv, hfr2⟩
  exact ⟨v, ob', rfl, own_weaken hown hfb.size, hat2, (hfb.mono (fun _ h => h.elim)).trans hfr2 (fun i hi => .inl hi)⟩

theorem lit_one (w : World) (s : ByteArray) : Kd.C Kd.string (w.alloc (.cells #[.string s] 9)) (some ⟨w.heap.size, 0, none⟩) 1 [s] := by
  have ho : (w.alloc (.cells #[.string s] 9)).ownsRow 0 9 1 (.slice (some ⟨w.heap.size, 0, none⟩) [s].length 1) [s].length (encs Value.string [s]) :=
    ⟨rfl, .inr ⟨_, _, _, rfl, Nat.zero_le _, heap_new w _, Nat.le_refl _, by unfold maxLen; omega, rfl, rfl⟩⟩
  have hR : Kd.R Kd.string 9 (w.alloc (.cells #[.string s] 9)) 0 (fun _ => True) (.slice (some ⟨w.heap.size, 0, none⟩) [s].length 1) [s] := Kd.R_of_own ho (fun _ _ => trivial)
  obtain ⟨A, c, he, _, hC⟩ := Kd.R_reads hR
  cases he
  exact hC
theorem texts1 (a : ByteArray) : gluepotref01_Texts.f 5 [a] [a] = some true := by
  unfold gluepotref01_Texts.f
  rw [if_pos rfl, gluepotref01_Texts.l0, if_pos (by simp), if_pos (by decide), if_pos (by simp), if_pos rfl, gluepotref01_Texts.l0, if_neg (show ¬ wrap64 (0 + 1) < (([a].length : Nat) : Int) from (show ¬ wrap64 (0 + 1) < (1 : Int) by decide +kernel))]
theorem fl1 : Spl.feedL 9 [] [97] [] = ([], true, [97]) := by decide +kernel
theorem fl2 : Spl.feedL 9 [97] [98, 32, 99] [] = ([[97, 98]], true, [99]) := by decide +kernel
theorem c97 : (Spl.cells [97]).toArray = #[.int .u8 97] := rfl
theorem c3 : (Spl.cells [98, 32, 99]).toArray = #[.int .u8 98, .int .u8 32, .int .u8 99] := rfl
theorem max91 : max (9 : Int) 1 = 9 := by decide +kernel
def gluepotlaw03_awake.f : Option Bool := some true
set_option maxHeartbeats 2000000 in
set_option maxRecDepth 100000 in
theorem gluepotlaw03_awake.calls (r : Bool) (w : World) (h : gluepotlaw03_awake.f = some r) :
    Calls Try.prog 13 #[] w fun e w' => e = .returned (.bool r) ∧ Below w.heap.size w w' := by
  cases h
  have HAT := Lib.hid (Spl.At.fresh w w.heap.size (Nat.le_refl _) (max (9 : Int) 1))
  go_enter Try.func13, Try.ntmps13
  go_wp2_with (go_at_call 15; refine (Spl.new_c 9 _).mono ?_; rintro e w1 ⟨rfl, rfl⟩)
  obtain ⟨W0, hW0⟩ : ∃ W0, W0 = w.alloc (.cells #[.int .i64 (max (9 : Int) 1), .slice none 0 0, .bool false] Spl.TS) := ⟨_, rfl⟩
  have hs0 : W0.heap.size = w.heap.size + 1 := by rw [hW0]; simp
  have hfr0 : Fr (fun _ => False) w W0 := by rw [hW0]; exact (Fr.refl _ w).alloc _
  rw [← hW0] at HAT ⊢
  rw [max91] at HAT
  have kc := fun (W : World) (C : Array Value) (n c : Nat) => Lib.run_convert_bytes_const (P := Try.prog) W 31 5 C n c Try.underlying31 Try.underlying5
  rw [← hs0]
  rw [kc]
  clear kc hW0
  go_wp2_with fail
  have hf := feed_lit w.heap.size w.heap.size none 9 [] [97] 1 (1, 2) W0 HAT.out hfr0.size (by simp only [List.length_nil, List.length_cons]; omega)

  rw [fl1, c97] at hf
  simp only [hs0] at hf
  refine hf.mono ?_
  rintro e w1 ⟨v1, ob1, rfl, hown1, hat1, hfr1⟩
  simp only at hown1 hat1 ⊢
  have hfr1' : Fr (fun _ => False) w w1 := hfr0.trans hfr1 (fun i hi => .inr (by rcases hi with rfl | hi; exact Nat.le_refl _; cases hi))
  obtain ⟨A1, p1, rfl⟩ := Bs.own_slice hown1
  have HA1 := Lib.hid hat1
  have HF1 := Lib.hid hfr1'
  clear hown1 hat1 hfr1 hfr1' hf HAT hfr0 hs0
  go_wp2_with fail
  have kc := fun (C : Array Value) (n c : Nat) => Lib.run_convert_bytes_const (P := Try.prog) w1 31 5 C n c Try.underlying31 Try.underlying5
  rw [kc]
  clear kc
  go_wp2_with fail
  have hf := feed_lit w.heap.size w.heap.size ob1 9 [97] [98, 32, 99] 3 (3, 4) w1 HA1.out HF1.out.size (by simp only [List.length_nil, List.length_cons]; omega)
  rw [fl2, c3] at hf
  refine hf.mono ?_
  rintro e w2 ⟨v2, ob2, rfl, hown2, hat2, hfr2⟩
  simp only at hown2 hat2 ⊢
  have hfr2' : Fr (fun _ => False) w w2 := HF1.out.trans hfr2 (fun i hi => .inr (by rcases hi with rfl | hi; exact Nat.le_refl _; exact (HA1.out.row hi).1))
  rw [strs_encs] at hown2
  have hR2 : Kd.R Kd.string 9 w2 w1.heap.size (fun _ => True) v2 [mkB [97, 98]] := Kd.R_of_own hown2 (fun _ _ => trivial)
  obtain ⟨A2, p2, rfl, hp2, hC2⟩ := Kd.R_reads hR2
  have HA2 := Lib.hid hat2
  have HF2 := Lib.hid hfr2'
  have HC2 := Lib.hid hC2
  clear hown2 hat2 hfr2 hfr2' hf HA1 HF1 hR2 hC2
  go_wp2_with fail
  refine (gluepotref01_Texts.calls 5 A2 p2 [mkB [97, 98]] (some ⟨w2.heap.size, 0, none⟩) 1 [mkB [97, 98]] true _ (Kd.C_below HC2.out ((Below.refl _ _).alloc (Nat.le_refl _) _)) hp2 (lit_one _ _) (Nat.le_refl _) (texts1 _)).mono ?_
  rintro e w3 ⟨rfl, ⟨q, hq⟩⟩
  have hat3 : Spl.At w.heap.size w.heap.size ob2 9 [99] false w3 := by
    rw [hq]
    exact (HA2.out.fr ((Fr.refl (fun _ => False) w2).alloc (.cells #[.string (mkB [97, 98])] 9)) (fun h => h) (fun _ _ h => h)).drewN q
  have hfr3 : Fr (fun _ => False) w w3 := by
    rw [hq]
    exact (HF2.out.alloc (.cells #[.string (mkB [97, 98])] 9)).drewN q
  have HA3 := Lib.hid hat3
  have HF3 := Lib.hid hfr3
  clear hat3 hfr3 hq HA2 HF2 HC2
  go_wp2_with fail
  refine (Spl.end_c _ _ _ _ _ _ _ HA3.out HF3.out.size (by simp only [List.length_nil, List.length_cons]; omega)).mono ?_
  rintro e w4 ⟨v4, rfl, hown4, hat4, hfr4⟩
  rw [show Spl.endL [99] = [[99]] by rfl, strs_encs] at hown4
  have hR4 : Kd.R Kd.string 9 w4 w3.heap.size (fun _ => True) v4 [mkB [99]] := Kd.R_of_own hown4 (fun _ _ => trivial)
  obtain ⟨A4, p4, rfl, hp4, hC4⟩ := Kd.R_reads hR4
  have hfr4' : Fr (fun _ => False) w w4 := HF3.out.trans hfr4 (fun i hi => .inr (by rw [hi]; exact Nat.le_refl _))
  have HF4 := Lib.hid hfr4'
  have HC4 := Lib.hid hC4
  clear hown4 hat4 hfr4 hR4 hC4 hfr4'
  go_wp2_with fail
  refine (gluepotref01_Texts.calls 5 A4 p4 [mkB [99]] (some ⟨w4.heap.size, 0, none⟩) 1 [mkB [99]] true _ (Kd.C_below HC4.out ((Below.refl _ _).alloc (Nat.le_refl _) _)) hp4 (lit_one _ _) (Nat.le_refl _) (texts1 _)).mono ?_
  rintro e w5 ⟨rfl, ⟨q5, rfl⟩⟩
  have hfin := (HF4.out.alloc (.cells #[.string (mkB [99])] 9)).drewN q5
  have HFIN := Lib.hid hfin
  clear hfin
  go_wp2_with fail
  go_ret
  exact ⟨rfl, HFIN.out.toBelow (fun _ h => h.elim) (Nat.le_refl _)⟩
end Go.Proofs.Ytmldibphbilghaa.Pr
