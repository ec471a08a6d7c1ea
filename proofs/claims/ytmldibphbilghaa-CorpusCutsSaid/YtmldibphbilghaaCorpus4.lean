/- corpus.Read; gluepotlaw05.awake; the law CorpusKinds, walked. -/
import Derived.Test.YtmldibphbilghaaCorpus3
import Derived.Test.YtmldibphbilghaaSpEach
namespace Go.Proofs.Ytmldibphbilghaa.Cor
open Go.RowKit Go.Proofs.Ytmldibphbilghaa.Bs Go.Proofs.YtmldibphbilghaaW.PrintWords
set_option linter.unusedVariables false
set_option linter.unusedSimpArgs false
set_option maxHeartbeats 1000000 in
set_option maxRecDepth 100000 in
theorem each_bad (x V : Value) (lim : Int) (w : World) (h : lim < 1 ∨ 65536 < lim) : Calls Try.prog 41 #[x, .int .i64 lim, V] w fun e w' => e = .returned (.tuple #[.int .i64 0, .int .i64 2]) ∧ w' = w := by
  go_enter Try.func41, Try.ntmps41
  rcases h with h | h
  · go_wp2_with fail
    go_ret2
    exact ⟨rfl, rfl⟩
  · have h2 : ¬ lim < 1 := by omega
    go_wp2_with fail
    go_ret2
    exact ⟨rfl, rfl⟩
set_option maxHeartbeats 1000000 in
set_option maxRecDepth 100000 in
theorem each_str (v V : Value) (lim : Int) (w : World) (h1 : 1 ≤ lim) (h2 : lim ≤ 65536) : Calls Try.prog 41 #[.iface 9 v, .int .i64 lim, V] w fun e w' => e = .returned (.tuple #[.int .i64 0, .int .i64 11]) ∧ w' = w := by
  have h := Src.isStr v
  go_enter Try.func41, Try.ntmps41
  go_wp2_with fail
  go_ret2
  exact ⟨rfl, rfl⟩
set_option maxHeartbeats 1000000 in
set_option maxRecDepth 100000 in
theorem each_none (V : Value) (lim : Int) (w : World) (h1 : 1 ≤ lim) (h2 : lim ≤ 65536) : Calls Try.prog 41 #[.nilIface, .int .i64 lim, V] w fun e w' => e = .returned (.tuple #[.int .i64 0, .int .i64 11]) ∧ w' = w := by
  have h := Src.nilSource
  go_enter Try.func41, Try.ntmps41
  go_wp2_with fail
  go_ret2
  exact ⟨rfl, rfl⟩
set_option maxHeartbeats 1000000 in
set_option maxRecDepth 100000 in
theorem read_bad (x : Value) (lim : Int) (w : World) (h : lim < 1 ∨ 65536 < lim) : Calls Try.prog 40 #[x, .int .i64 lim] w fun e w' => e = .returned (.tuple #[.slice none 0 0, .int .i64 2]) ∧ Fr (fun _ => False) w w' := by
  have hmf : ∀ (fn : Fn) (first cap : Array Value) (w : World), (Instr.makeFunc fn first cap).run Try.prog w = .ok (.func fn first cap) w := fun _ _ _ _ => rfl
  have HH := Lib.hid h
  clear h
  go_enter Try.func40, Try.ntmps40
  go_wp2_with fail
  refine (each_bad _ _ _ _ HH.out).mono ?_
  rintro e w1 ⟨rfl, rfl⟩
  go_wp2_with fail
  go_ret2
  exact ⟨rfl, (Fr.refl _ _).alloc _⟩
set_option maxHeartbeats 1000000 in
set_option maxRecDepth 100000 in
theorem read_str (v : Value) (lim : Int) (w : World) (h1 : 1 ≤ lim) (h2 : lim ≤ 65536) : Calls Try.prog 40 #[.iface 9 v, .int .i64 lim] w fun e w' => e = .returned (.tuple #[.slice none 0 0, .int .i64 11]) ∧ Fr (fun _ => False) w w' := by
  have hmf : ∀ (fn : Fn) (first cap : Array Value) (w : World), (Instr.makeFunc fn first cap).run Try.prog w = .ok (.func fn first cap) w := fun _ _ _ _ => rfl
  have HH := Lib.hid h1
  have HH2 := Lib.hid h2
  clear h1 h2
  go_enter Try.func40, Try.ntmps40
  go_wp2_with fail
  refine (each_str _ _ _ _ HH.out HH2.out).mono ?_
  rintro e w1 ⟨rfl, rfl⟩
  go_wp2_with fail
  go_ret2
  exact ⟨rfl, (Fr.refl _ _).alloc _⟩
set_option maxHeartbeats 2000000 in
set_option maxRecDepth 100000 in
theorem read_c {T : TypeId} {p : Value} (R : SRC T p) (r : List ByteArray) (err : Int) (lim : Int) (MS : Nat → Prop) (w : World) (n : Nat) (E : Int) (Y : List ByteArray)
    (hs : R.St r err MS w) (h1 : 1 ≤ lim) (h2 : lim ≤ 65536) (hbig : 2 * (Pure.wholeL r).length ≤ 100000) (hq : eachL lim (fun _ _ => true) err [] [] 0 r = (n, E, Y)) :
    Calls Try.prog 40 #[.iface T p, .int .i64 lim] w fun e w' => Fr MS w w' ∧
      ((E ≠ 0 ∧ e = .returned (.tuple #[.slice none 0 0, .int .i64 E])) ∨ (E = 0 ∧ ∃ v, e = .returned (.tuple #[v, .int .i64 0]) ∧ w'.ownsRow 0 TX 1 v Y.length (Y.map Value.string))) := by
  have hmf : ∀ (fn : Fn) (first cap : Array Value) (w : World), (Instr.makeFunc fn first cap).run Try.prog w = .ok (.func fn first cap) w := fun _ _ _ _ => rfl
  have hs1 := R.keep hs ((Fr.refl (fun _ => False) w).alloc (.cells #[.slice none 0 0] TR)) (fun _ _ h => h)
  have hec := each_c R (HD.ofCB (cb_read w.heap.size)) r err lim [] MS (fun k => k = w.heap.size) _ hs1 (App.fresh w) (fun k hk e => by have := R.lt hs k hk; omega) h1 h2 (by simpa using hbig)
  rw [hq] at hec
  have HE := Lib.hid hec
  clear hs hs1 hec hq hbig
  go_enter Try.func40, Try.ntmps40
  go_wp2_with fail
  refine HE.out.mono ?_
  rintro e w2 ⟨rfl, M', hst, hf, hm⟩
  obtain ⟨v, hb, ho, hM⟩ := hst
  have hf2 : Fr MS w w2 := ((Fr.refl MS w).alloc _).trans hf (fun k hk => hk.elim .inl (fun e => .inr (by rw [e]; exact Nat.le_refl _)))
  have HF := Lib.hid hf2
  have HO := Lib.hid ho
  have c0 : w2.cell? ⟨w.heap.size, 0, none⟩ = some v := by rw [cell_heap hb]; rfl
  clear hf hm hb ho hM hf2 HE
  by_cases h0 : E = 0
  · subst h0
    go_wp2_with fail
    go_ret2
    exact ⟨HF.out, v, rfl, HO.out⟩
  · go_wp2_with fail
    go_ret2
    refine ⟨HF.out, ?_⟩
    first | exact Or.inl ⟨h0, rfl⟩ | exact ⟨h0, rfl⟩ | exact rfl
theorem each_words (lim : Int) (r : List ByteArray) (h : ((Pure.wholeL r).length : Int) ≤ lim) : eachL lim (fun _ _ => true) 0 [] [] 0 r = ((Pure.wordsW [] (Pure.wholeL r)).length, 0, (Pure.wordsW [] (Pure.wholeL r)).map Pr.mkB) := by
  obtain ⟨h1, h2⟩ := Pure.feed_W lim (Pure.wholeL r) [] [] (by simpa using h)
  rw [List.nil_append] at h2
  rw [each_all, if_pos h1, if_pos rfl, List.nil_append, h2, ← h2, List.length_append]
  simp
theorem plain_whole (s : ByteArray) : Pure.wholeL (Src.plain s).toList = s.data.toList := by
  unfold Src.plain
  by_cases h : s = ByteArray.empty
  · rw [if_pos h, h]; rfl
  · rw [if_neg h]; simp [Pure.wholeL]
end Go.Proofs.Ytmldibphbilghaa.Cor
namespace Go.Proofs.Ytmldibphbilghaa.Pr
open Go.RowKit Go.Proofs.Ytmldibphbilghaa.Bs Go.Proofs.YtmldibphbilghaaW.PrintWords Go.Proofs.YtmldibphbilghaaW.PrintLast Go.Proofs.YtmldibphbilghaaW.PrintMore
set_option linter.unusedVariables false
set_option linter.unusedSimpArgs false
theorem aw1 : Src.told (-1) 0 [mkB [97, 98], mkB [99, 32, 100]] = ([mkB [97, 98], mkB [99, 32, 100]], 0) := by decide +kernel
theorem aw2 : Cor.eachL 9 (fun _ _ => true) 0 [] [] 0 [mkB [97, 98], mkB [99, 32, 100]] = (2, 0, [mkB [97, 98, 99], mkB [100]]) := by decide +kernel
/-- A row that the call owns reads as its words. -/
theorem own_reads {w : World} {B : Nat} {v : Value} {Y : List ByteArray} (h : w.ownsRow B Cor.TX 1 v Y.length (Y.map Value.string)) : ∃ A c, v = .slice A Y.length c ∧ Y.length ≤ c ∧ Kd.C Kd.string w A Y.length Y := by
  have hR : Kd.R Kd.string 9 w B (fun _ => True) v Y := Kd.R_of_own h (fun _ _ => trivial)
  exact Kd.R_reads hR
def gluepotlaw05_awake.f : Option Bool := some true
set_option maxHeartbeats 2000000 in
set_option maxRecDepth 100000 in
theorem gluepotlaw05_awake.calls (r : Bool) (w : World) (h : gluepotlaw05_awake.f = some r) :
    Calls Try.prog 37 #[] w fun e w' => e = .returned (.bool r) ∧ Below w.heap.size w w' := by
  cases h
  go_enter Try.func37, Try.ntmps37
  go_wp2_with fail
  refine (Src.new_c _ 2 [mkB [97, 98], mkB [99, 32, 100]] (-1) _ (Src.lit_two w _ _) (by decide)).mono ?_
  rintro e w1 ⟨b, ob, rfl, hs, hf⟩
  have hf1 : Fr (fun _ => False) w w1 := ((Fr.refl _ w).alloc _).trans hf (fun _ h => h.elim)
  have hwb : ∀ k, (k = b ∨ ob = some k) → w.heap.size ≤ k := fun k hk => hk.elim (fun e => by rw [e]; exact Nat.le_trans (by simp) hs.le) (fun e => Nat.le_trans (by simp) (hs.row e).1)
  have hst : (Cor.scrS (w.alloc (.cells #[.string (mkB [97, 98]), .string (mkB [99, 32, 100])] 9)).heap.size b ob [mkB [97, 98], mkB [99, 32, 100]] (-1) (by decide)).St [mkB [97, 98], mkB [99, 32, 100]] 0 (fun k => k = b ∨ ob = some k) w1 := ⟨0, Nat.zero_le _, aw1, hs, fun k => Iff.rfl⟩
  have hrc := Cor.read_c _ _ _ 9 _ w1 2 0 _ hst (by decide) (by decide) (by decide +kernel) aw2
  have HRC := Lib.hid hrc
  have HF := Lib.hid hf1
  have HWB := Lib.hid hwb
  clear hs hf hf1 hst hrc hwb
  go_wp2_with fail
  refine HRC.out.mono ?_
  rintro e w2 ⟨hf2, ⟨h0, _⟩ | ⟨_, v, rfl, ho⟩⟩
  · exact absurd rfl h0
  obtain ⟨A2, p2, rfl, hp2, hC2⟩ := own_reads ho
  have HF2 := Lib.hid (HF.out.trans hf2 (fun k hk => .inr (HWB.out k hk)))
  have HC2 := Lib.hid hC2
  clear hf2 ho hC2 HRC
  go_wp2_with fail
  refine (gluepotref01_Texts.calls 5 A2 p2 [mkB [97, 98, 99], mkB [100]] (some ⟨w2.heap.size, 0, none⟩) 2 [mkB [97, 98, 99], mkB [100]] true _ (Kd.C_below HC2.out ((Below.refl _ _).alloc (Nat.le_refl _) _)) hp2 (Src.lit_two _ _ _) (Nat.le_refl _) (Pure.texts_same _ (by decide) (by decide))).mono ?_
  rintro e w3 ⟨rfl, ⟨q, hq⟩⟩
  have HF3 := Lib.hid (show Fr (fun _ => False) w w3 from by rw [hq]; exact (HF2.out.alloc _).drewN q)
  clear hq
  go_wp2_with fail
  go_ret
  exact ⟨by rfl, HF3.out.toBelow (fun _ h => h.elim) (Nat.le_refl _)⟩
def gluepotlaw05_CorpusKinds.f (a0 : ByteArray) (a1 : Int) : Option Bool := some true
set_option maxHeartbeats 2000000 in
set_option maxRecDepth 100000 in
theorem gluepotlaw05_CorpusKinds.calls (a0 : ByteArray) (a1 : Int) (r : Bool) (w : World) (h : gluepotlaw05_CorpusKinds.f a0 a1 = some r) :
    Calls Try.prog 12 #[.string a0, .int .i64 a1] w fun e w' => e = .returned (.bool r) ∧ Below w.heap.size w w' := by
  cases h
  go_enter Try.func12, Try.ntmps12
  go_wp2_with fail
  refine (gluepotlaw05_awake.calls true _ rfl).mono ?_
  rintro e w1 ⟨rfl, hb1⟩
  have HB1 := Lib.hid hb1
  clear hb1
  by_cases hbig : 3000 < a0.size
  · go_wp2_with fail
    go_ret
    exact ⟨rfl, HB1.out⟩
  · have hx : ∃ EE : Int, (∀ W : World, Calls Try.prog 40 #[.iface 9 (.string a0), .int .i64 a1] W fun e w' => e = .returned (.tuple #[.slice none 0 0, .int .i64 EE]) ∧ Fr (fun _ => False) W w') ∧
        (∀ W : World, Calls Try.prog 41 #[.nilIface, .int .i64 a1, .nilFunc] W fun e w' => e = .returned (.tuple #[.int .i64 0, .int .i64 EE]) ∧ w' = W) ∧
        ((a1 < 1 ∧ EE = 2) ∨ (1 ≤ a1 ∧ 65536 < a1 ∧ EE = 2) ∨ (1 ≤ a1 ∧ a1 ≤ 65536 ∧ EE = 11)) := by
      by_cases h1 : a1 < 1
      · exact ⟨2, fun W => Cor.read_bad _ _ _ (.inl h1), fun W => Cor.each_bad _ _ _ _ (.inl h1), .inl ⟨h1, rfl⟩⟩
      · by_cases h2 : 65536 < a1
        · exact ⟨2, fun W => Cor.read_bad _ _ _ (.inr h2), fun W => Cor.each_bad _ _ _ _ (.inr h2), .inr (.inl ⟨by omega, h2, rfl⟩)⟩
        · exact ⟨11, fun W => Cor.read_str _ _ _ (by omega) (by omega), fun W => Cor.each_none _ _ _ (by omega) (by omega), .inr (.inr ⟨by omega, by omega, rfl⟩)⟩
    obtain ⟨EE, hx1, hx2, hx3⟩ := hx
    have HX1 := Lib.hid hx1
    have HX2 := Lib.hid hx2
    have hwd := Pure.refwords_f (k := 10000) a0 (by omega) (by omega)
    have hwl := Pure.wordsW_len a0.data.toList []
    have hls : a0.data.toList.length = a0.size := by simp
    have hew := Cor.each_words 65536 (Src.plain a0).toList (by rw [Cor.plain_whole]; omega)
    rw [Cor.plain_whole] at hew
    generalize Pure.wordsW [] a0.data.toList = Wd at hwd hwl hew
    have HWD := Lib.hid hwd
    have HEW := Lib.hid hew
    have hec : ∀ (b : Nat) (W : World), Src.PlainAt b a0 W → Calls Try.prog 41 #[.iface Src.PP (.pointer (some ⟨b, 0, none⟩)), .int .i64 65536, .nilFunc] W fun e w' => e = .returned (.tuple #[.int .i64 Wd.length, .int .i64 0]) ∧ Fr (fun k => k = b) W w' := by
      intro b W hp
      have := Cor.each_c (Cor.plainS b) Cor.HD.none (Src.plain a0).toList 0 65536 [] (fun k => k = b) (fun _ => False) W ⟨rfl, ⟨a0, hp, rfl⟩, fun k => Iff.rfl⟩ (fun _ h => h) (fun _ _ h => h) (by decide) (by decide) (by rw [Cor.plain_whole]; simp; omega)
      rw [HEW.out] at this
      refine this.mono ?_
      rintro e w' ⟨rfl, M', _, hf, _⟩
      exact ⟨rfl, hf.mono (fun k hk => hk.elim id (fun h => h.elim))⟩
    have HEC := Lib.hid hec
    clear hx1 hx2 hwd hew hec
    rcases hx3 with ⟨c1, rfl⟩ | ⟨c1, c2, rfl⟩ | ⟨c1, c2, rfl⟩
    all_goals
      go_wp2_with fail
      refine (HX1.out _).mono ?_
      rintro e w2 ⟨rfl, hf2⟩
      have HF2 := Lib.hid ((Fr.ofBelow (S := fun _ => False) HB1.out).trans hf2 (fun _ h => h.elim))
      clear hf2
      go_wp2_with fail
      refine (HX2.out _).mono ?_
      rintro e w3 ⟨rfl, rfl⟩
      go_wp2_with fail
      refine (HEC.out _ _ (heap_new _ _)).mono ?_
      rintro e w4 ⟨rfl, hf4⟩
      have HF4 := Lib.hid ((HF2.out.alloc _).trans hf4 (fun k hk => .inr (by rw [hk]; exact HF2.out.size)))
      clear hf4
      go_wp2_with fail
      refine (gluepotref03_Words.calls 10000 _ _ _ HWD.out).mono ?_
      rintro e w5 ⟨v5, rfl, hR5, hb5⟩
      obtain ⟨A5, p5, rfl, hp5, hC5⟩ := Kd.R_reads hR5
      have HF5 := Lib.hid (HF4.out.below hb5)
      clear hb5 hC5 hR5
      go_wp2_with fail
      go_ret
      exact ⟨by simp, HF5.out.toBelow (fun _ h => h.elim) (Nat.le_refl _)⟩
end Go.Proofs.Ytmldibphbilghaa.Pr
