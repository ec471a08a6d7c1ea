/- The contract of (*strings.Builder).WriteRune: it appends the rune's bytes, where the new length is within 2^47; a row that lies above a block g stays above it (RIn: a builder beside the bytes of '[]byte(s)'). -/
import Derived.Test.YthhkbbhfloekiaaBuilder
import Derived.Lib.RuneBytes
namespace Go.Proofs.Ythhkbbhfloekiaa.Bld
open Go.RowKit Go.Proofs.Ythhkbbhfloekiaa.Bs
set_option linter.unusedVariables false
set_option linter.unusedSimpArgs false

theorem own_low {B R : Nat} {e : TypeId} {sz n : Nat} {v : Value} {xs : List Value} {w : World} (ho : w.ownsRow R e sz v n xs) (h : B ≤ R) : w.ownsRow B e sz v n xs := by
  obtain ⟨h1, h2⟩ := ho
  refine ⟨h1, ?_⟩
  rcases h2 with h2 | ⟨g, cap, cur, rfl, hg, r⟩
  · exact .inl h2
  · exact .inr ⟨g, cap, cur, rfl, Nat.le_trans h hg, r⟩
theorem own_up {B R : Nat} {e : TypeId} {sz n : Nat} {v : Value} {xs : List Value} {w : World} (ho : w.ownsRow B e sz v n xs) (h : ∀ k, v.ownBlock = some k → R ≤ k) : w.ownsRow R e sz v n xs := by
  obtain ⟨h1, h2⟩ := ho
  refine ⟨h1, ?_⟩
  rcases h2 with h2 | ⟨g, cap, cur, rfl, hg, r⟩
  · exact .inl h2
  · exact .inr ⟨g, cap, cur, rfl, h g rfl, r⟩

set_option maxHeartbeats 2000000 in
set_option maxRecDepth 100000 in
theorem writeRune_c (B R b : Nat) (ob : Option Nat) (bs : List Value) (r : Int) (hr0 : -2147483648 ≤ r) (hr1 : r ≤ 2147483647) (w : World) (h : At B b ob bs w) (hR : ∀ k, ob = some k → R ≤ k) (hBR : B ≤ R) (hlen : bs.length + 4 ≤ 140737488355328) (hRw : R ≤ w.heap.size) :
    Calls Try.prog 17 #[.pointer (some ⟨b, 0, none⟩), .int .i32 r] w fun e w' => e = .returned (.tuple #[.int .i64 (Lib.runeCells r).length, .nilIface]) ∧
      ∃ ob', At B b ob' (bs ++ Lib.runeCells r) w' ∧ (∀ k, ob' = some k → R ≤ k) ∧ Fr (Foot b ob) w w' := by
  have hk4 := Lib.runeCells_le r
  go_enter Try.func17, Try.ntmps17
  go_wp2_with (go_at_call 20; refine (copyCheck_c B b ob bs _ h).mono ?_)
  rintro e w1 ⟨rfl, v, hB, hbk, hown, hob, hf1⟩
  have HOB := Lib.hid hob
  clear hob
  obtain ⟨ao, cap, rfl⟩ := own_slice hown
  have c0 : w1.cell? ⟨b, 0, none⟩ = some (.pointer (some ⟨b, 0, none⟩)) := by rw [cell_heap hbk]; rfl
  have c1 : w1.cell? ⟨b, 1, none⟩ = some (.slice ao bs.length cap) := by rw [cell_heap hbk]; rfl
  have hne := own_ne hown hbk (show TB ≠ T8 by decide)
  have hownR := own_up hown (R := R) (fun k hk => hR k (by rw [← HOB.out]; exact hk))
  go_wp2_with (go_at_call 21; refine (Try.utf8_AppendRune_plain R _ bs.length bs r hr0 hr1 _ hownR hlen (by have := hf1.size; omega)).mono ?_)
  rintro e w2 ⟨v', rfl, hown', o, hgrow⟩
  have hb2 : w2.heap[b]? = some (.cells #[.pointer (some ⟨b, 0, none⟩), .slice ao bs.length cap] TB (0, 0)) := by
    rw [hgrow.block b (by have := blk_lt hbk; simp; omega) (fun e => hne e.symm)]
    exact heap_old hbk _
  have d0 : w2.cell? ⟨b, 0, none⟩ = some (.pointer (some ⟨b, 0, none⟩)) := by rw [cell_heap hb2]; rfl
  have d1 : w2.cell? ⟨b, 1, none⟩ = some (.slice ao bs.length cap) := by rw [cell_heap hb2]; rfl
  have f1 : w2.frozen? ⟨b, 1, none⟩ = false := free_heap hb2 1
  obtain ⟨g, cap', rfl⟩ : ∃ g cap', v' = .slice (some ⟨g, 0, none⟩) (bs.length + (Lib.runeCells r).length) cap' := by
    rcases hown'.2 with ⟨_, h0⟩ | ⟨g, cap', cur, hv, _⟩
    · omega
    · exact ⟨g, cap', hv⟩
  have hf2 : Fr (Foot b ob) w (w2.setCell ⟨b, 1, none⟩ (.slice (some ⟨g, 0, none⟩) (bs.length + (Lib.runeCells r).length) cap')) :=
    ((hf1.alloc _).grown hgrow (fun k hk => .inl (.inr (by rw [← HOB.out]; exact hk)))).set (.inl (.inl rfl)) _
  have hat2 : At B b (some g) (bs ++ Lib.runeCells r) (w2.setCell ⟨b, 1, none⟩ (.slice (some ⟨g, 0, none⟩) (bs.length + (Lib.runeCells r).length) cap')) := by
    refine ⟨_, .slice (some ⟨g, 0, none⟩) (bs.length + (Lib.runeCells r).length) cap', .inr rfl, hB, by simpa using heap_set hb2 1 _, ?_, rfl⟩
    have hne2 := own_ne hown' hb2 (show TB ≠ T8 by decide)
    have := ((Fr.refl (fun k => k = b) w2).set (p := ⟨b, 1, none⟩) (.inl rfl) (.slice (some ⟨g, 0, none⟩) (bs.length + (Lib.runeCells r).length) cap')).own (own_low hown' hBR) (fun g hg e => hne2 (by rw [hg, e]))
    simpa using this
  have HRg : ∀ k, some g = some k → R ≤ k := fun k hk => (own_lt hown' hk).1
  have HF := Lib.hid hf2
  have HA := Lib.hid hat2
  clear hf2 hat2
  go_wp2
  go_ret2
  refine ⟨?_, _, HA.out, HRg, HF.out⟩
  have e : ((bs.length : Int) + ((Lib.runeCells r).length : Int) - (bs.length : Int)) = ((Lib.runeCells r).length : Int) := by omega
  simp [e]

/-- As BIn; the builder's row lies above block g. -/
def RIn (w : World) (b g : Nat) (o : Obj) (l : List UInt8) (wr : World) : Prop :=
  ∃ ob, At w.heap.size b ob (cells l) wr ∧ Fr (fun _ => False) w wr ∧ wr.heap[g]? = some o ∧ g ≠ b ∧ w.heap.size ≤ g ∧ ∀ k, ob = some k → g + 1 ≤ k
theorem RIn.toB {w wr : World} {b g : Nat} {o : Obj} {l : List UInt8} (h : RIn w b g o l wr) : BIn w b g o l wr := by
  obtain ⟨ob, hA, hF, hg, h1, h2, h3⟩ := h
  exact ⟨ob, hA, hF, hg, h1, fun e => by have := h3 g e; omega⟩
theorem RIn.drewN {w wr : World} {b g : Nat} {o : Obj} {l : List UInt8} (h : RIn w b g o l wr) (q : Nat) : RIn w b g o l (wr.drewN q) := by
  obtain ⟨ob, hA, hF, hg, h1, h2, h3⟩ := h
  exact ⟨ob, hA, hF.drewN q, hg, h1, h2, h3⟩
theorem begin_bytesR (w : World) (s : ByteArray) : ∃ o, (∀ wr : World, wr.heap[w.heap.size + 1]? = some o → ∀ j, j < s.size → wr.cell? ⟨w.heap.size + 1, j, none⟩ = some (.int .u8 (s.data.toList.getD j 0).toNat)) ∧
    RIn w w.heap.size (w.heap.size + 1) o [] (Lib.bytesWorld (w.alloc (.cells #[.pointer none, .slice none 0 0] 38)) 5 s) := by
  have hs1 := Lib.bytesWorld_at_new (w.alloc (.cells #[.pointer none, .slice none 0 0] 38)) 5 s
  rw [World.size_alloc] at hs1
  exact ⟨_, fun wr hwr j hj => bytes_cell hwr j hj, none, (At.fresh w _ (Nat.le_refl _)).fr (bytes_fr _ _ _) (fun h => h) (fun _ h => by cases h), ((Fr.refl _ w).alloc _).trans (bytes_fr _ _ _) (fun _ h => h.elim), hs1, by omega, by omega, fun _ h => by cases h⟩
theorem writeRune_in {w wr : World} {b g : Nat} {o : Obj} {l : List UInt8} (r : Int) (hr0 : -2147483648 ≤ r) (hr1 : r ≤ 2147483647) (h : RIn w b g o l wr) (hlen : l.length + 4 ≤ 140737488355328) :
    Calls Try.prog 17 #[.pointer (some ⟨b, 0, none⟩), .int .i32 r] wr fun e w' => e = .returned (.tuple #[.int .i64 (Lib.runeCells r).length, .nilIface]) ∧ RIn w b g o (l ++ Lib.encodeRune r) w' := by
  obtain ⟨ob, hA, hF, hg, hgb, hgw, hR⟩ := h
  refine (writeRune_c w.heap.size (g + 1) b ob _ r hr0 hr1 _ hA hR (by omega) (by rw [cells_length]; exact hlen) (blk_lt hg)).mono ?_
  rintro e w' ⟨rfl, ob', hA', hR', hf⟩
  refine ⟨rfl, ob', ?_, hF.trans hf (fun i hi => .inr ?_), hf.heap hg (fun hx => hx.elim hgb (fun e => by have := hR g e; omega)), hgb, hgw, hR'⟩
  · rw [cells_append]
    rw [← Lib.byteCells_encodeRune] at hA'
    exact hA'
  · rcases hi with rfl | hi
    · exact hA.le
    · exact (hA.row hi).1
end Go.Proofs.Ythhkbbhfloekiaa.Bld
