/- split.Gap, New, Open and take: a Splitter at block b (made since B) whose open word is bs, in a row of its own. -/
import Derived.Test.YtmldibphbilghaaShelf
import Derived.Test.YtmldibphbilghaaBase
import Derived.Test.YtmldibphbilghaaPr0
import Derived.Lib.Hide
import Derived.Laws.CopyOwn
namespace Go.Proofs.Ytmldibphbilghaa.Spl
open Go.RowKit Go.Proofs.Ytmldibphbilghaa.Bs Go.Proofs.YtmldibphbilghaaW.PrintWords
set_option linter.unusedVariables false
set_option linter.unusedSimpArgs false

abbrev TS : Nat := 71
abbrev T8 : Nat := 5
theorem info8 : (Try.prog.info? 5).map (fun i => (i.zero, i.size, i.bytes)) = some (some (.int .u8 0), 1, 1) := by kernel_rfl
/-- Bytes as cells. -/
def cells (l : List UInt8) : List Value := l.map fun c => .int .u8 c.toNat
theorem cells_length (l : List UInt8) : (cells l).length = l.length := by simp [cells]
theorem cells_snoc (l : List UInt8) (c : UInt8) : cells (l ++ [c]) = cells l ++ [.int .u8 c.toNat] := by simp [cells]
theorem cells_nums (l : List UInt8) : cells l = nums .u8 (l.map fun c => (c.toNat : Int)) := by simp [cells, nums]
theorem str_bytes (l : List UInt8) : strOfNums (l.map fun c => (c.toNat : Int)) = ⟨l.toArray⟩ := by
  unfold strOfNums
  simp [Function.comp_def]

def At (B b : Nat) (ob : Option Nat) (lim : Int) (bs : List UInt8) (bad : Bool) (w : World) : Prop :=
  ∃ v, B ≤ b ∧ w.heap[b]? = some (.cells #[.int .i64 lim, v, .bool bad] TS (0, 0)) ∧ w.ownsRow B T8 1 v bs.length (cells bs) ∧ v.ownBlock = ob
section
variable {B b : Nat} {ob : Option Nat} {lim : Int} {bs : List UInt8} {bad : Bool} {w w' : World}
theorem At.lt (h : At B b ob lim bs bad w) : b < w.heap.size := by
  obtain ⟨v, _, hb, _⟩ := h
  exact Bs.blk_lt hb
theorem At.le (h : At B b ob lim bs bad w) : B ≤ b := by
  obtain ⟨v, hB, _⟩ := h
  exact hB
theorem At.row (h : At B b ob lim bs bad w) {g : Nat} (hg : ob = some g) : B ≤ g ∧ g < w.heap.size ∧ g ≠ b := by
  obtain ⟨v, _, hb, ho, rfl⟩ := h
  exact ⟨(own_lt ho hg).1, (own_lt ho hg).2, fun e => Bs.own_ne ho hb (by decide) (by rw [hg, e])⟩
theorem At.fr {S : Nat → Prop} (h : At B b ob lim bs bad w) (hf : Fr S w w') (h1 : ¬ S b) (h2 : ∀ g, ob = some g → ¬ S g) : At B b ob lim bs bad w' := by
  obtain ⟨v, hB, hb, ho, rfl⟩ := h
  exact ⟨v, hB, hf.heap hb h1, hf.own ho h2, rfl⟩
theorem At.below (h : At B b ob lim bs bad w) (hf : Below w.heap.size w w') : At B b ob lim bs bad w' := h.fr (Fr.ofBelow (S := fun _ => False) hf) (fun h => h) (fun _ _ h => h)
theorem At.fresh (w : World) (B : Nat) (hB : B ≤ w.heap.size) (lim : Int) : At B w.heap.size none lim [] false (w.alloc (.cells #[.int .i64 lim, .slice none 0 0, .bool false] TS)) :=
  ⟨_, hB, heap_new w _, ⟨by simp [cells], .inl ⟨rfl, rfl⟩⟩, rfl⟩
end
/-- What a call may turn; where the row lies then. -/
def Foot (b : Nat) (ob : Option Nat) (k : Nat) : Prop := k = b ∨ ob = some k
def Moved (w : World) (ob ob' : Option Nat) : Prop := ob' = none ∨ ob' = ob ∨ ∃ g, ob' = some g ∧ w.heap.size ≤ g

/-! ### Gap -/
def gaps : List UInt8 := [9, 10, 13, 32]
def gap (c : UInt8) : Bool := gaps.contains c
theorem gap_index (c : UInt8) : decide (Lib.indexByte gaps c ≥ 0) = gap c := by
  unfold gaps gap Lib.indexByte gaps Lib.indexByte Lib.indexByte Lib.indexByte Lib.indexByte
  by_cases h1 : (9 : UInt8) = c
  · subst h1; rfl
  · by_cases h2 : (10 : UInt8) = c
    · subst h2; rfl
    · by_cases h3 : (13 : UInt8) = c
      · subst h3; rfl
      · by_cases h4 : (32 : UInt8) = c
        · subst h4; rfl
        · simp [h1, h2, h3, h4, Ne.symm h1, Ne.symm h2, Ne.symm h3, Ne.symm h4]
set_option maxHeartbeats 1000000 in
set_option maxRecDepth 100000 in
theorem gap_c (c : Int) (w : World) : Calls Try.prog 25 #[.int .u8 c] w fun e w' => e = .returned (.bool (gap c.toNat.toUInt8)) ∧ ∃ q, w' = w.drewN q := by
  go_enter Try.func25, Try.ntmps25
  go_wp2_with (go_at_call 45; refine (Try.strings_IndexByte _ c _).mono ?_; rintro e w1 ⟨rfl, rfl⟩)
  have hg := gap_index c.toNat.toUInt8
  unfold gaps at hg
  go_ret
  refine ⟨?_, ⟨0, rfl⟩⟩
  rw [← hg]
  rfl
/-! ### New -/
set_option maxHeartbeats 1000000 in
set_option maxRecDepth 100000 in
theorem new_c (lim : Int) (w : World) : Calls Try.prog 15 #[.int .i64 lim] w fun e w' => e = .returned (.pointer (some ⟨w.heap.size, 0, none⟩)) ∧ w' = w.alloc (.cells #[.int .i64 (max lim 1), .slice none 0 0, .bool false] TS) := by
  go_enter Try.func15, Try.ntmps15
  go_wp2
  go_ret
  exact ⟨rfl, rfl⟩
/-! ### Open -/
set_option maxHeartbeats 1000000 in
set_option maxRecDepth 100000 in
theorem open_c (B b : Nat) (ob : Option Nat) (lim : Int) (bs : List UInt8) (bad : Bool) (w : World) (h : At B b ob lim bs bad w) :
    Calls Try.prog 19 #[.pointer (some ⟨b, 0, none⟩)] w fun e w' => e = .returned (.int .i64 bs.length) ∧ w' = w := by
  obtain ⟨v, hB, hb, ho, rfl⟩ := h
  obtain ⟨ao, cap, rfl⟩ := Bs.own_slice ho
  have c1 : w.cell? ⟨b, 1, none⟩ = some (.slice ao bs.length cap) := by rw [cell_heap hb]; rfl
  go_enter Try.func19, Try.ntmps19
  go_wp2
  go_ret
  exact ⟨rfl, rfl⟩
theorem open_nil (w : World) : Calls Try.prog 19 #[.pointer none] w fun e w' => e = .returned (.int .i64 0) ∧ w' = w := by
  go_enter Try.func19, Try.ntmps19
  go_wp2
  go_ret
  exact ⟨rfl, rfl⟩
/-! ### take -/
theorem own_cut_block (ao : Option Addr) (n cap : Nat) : (Value.slice ao n cap).ownBlock = (Value.slice ao 0 cap).ownBlock := by cases ao <;> rfl
theorem own_cut {B n cap : Nat} {e : TypeId} {ao : Option Addr} {xs : List Value} {w : World} (h : w.ownsRow B e 1 (.slice ao n cap) n xs) : w.ownsRow B e 1 (.slice ao 0 cap) 0 [] := by
  refine ⟨rfl, ?_⟩
  rcases h.2 with ⟨he, _⟩ | ⟨g, cp, cur, he, hg, hh, _, hm, hs, _⟩
  · cases he
    exact .inl ⟨rfl, rfl⟩
  · cases he
    exact .inr ⟨g, cap, cur, rfl, hg, hh, Nat.zero_le _, hm, hs, by simp⟩
set_option maxHeartbeats 2000000 in
set_option maxRecDepth 100000 in
theorem take_c (B b : Nat) (ob : Option Nat) (lim : Int) (bs : List UInt8) (bad : Bool) (w : World) (h : At B b ob lim bs bad w) (hbig : bs.length ≤ 140737488355328) :
    Calls Try.prog 44 #[.pointer (some ⟨b, 0, none⟩)] w fun e w' => e = .returned (.string ⟨bs.toArray⟩) ∧ At B b ob lim [] bad w' ∧ Fr (fun k => k = b) w w' := by
  obtain ⟨v, hB, hb, ho, rfl⟩ := h
  obtain ⟨i0, hi, hz0, hz1, hz2⟩ := info_parts info8
  have hne := Bs.own_ne ho hb (show TS ≠ T8 by decide)
  obtain ⟨ao, cap, rfl⟩ := Bs.own_slice ho
  have c1 : w.cell? ⟨b, 1, none⟩ = some (.slice ao bs.length cap) := by rw [cell_heap hb]; rfl
  go_enter Try.func44, Try.ntmps44
  go_wp2_with (first
    | (at_make; refine wpList_make_full _ rfl _ _ 31 rfl w.heap.size T8 i0 (.int .u8 0) 1 Try.underlying31 hi hz0 hz1 _ _ _ _ bs.length rfl rfl rfl rfl ?m1 ?m2 (Nat.le_refl _) ?_)
    | go_in)
  case m1 => rw [hz2]; omega
  case m2 => unfold maxLen; omega
  intro w1 hown1 hgr1
  have hB1 : Below w.heap.size w w1 := (Below.refl _ w).grown hgr1 (Nat.le_refl _) (fun _ h => by cases h)
  have hf1 : Fr (fun _ => False) w w1 := (Fr.refl _ w).grown hgr1 (fun _ h => by cases h)
  have hz : ∃ zs : List Value, zs.length = bs.length ∧ w1.heap[w.heap.size]? = some (.cells zs.toArray T8 (0, 0)) := by
    rcases hown1.2 with ⟨h, _⟩ | ⟨g, cp, cur, he, _, hg, _, _, hs, _⟩
    · cases h
    · cases he
      exact ⟨cur.toList, by simpa using hs, by simpa using hg⟩
  obtain ⟨zs, hzl, hzg⟩ := hz
  clear hown1
  have hb1 : w1.heap[b]? = some (.cells #[.int .i64 lim, .slice ao bs.length cap, .bool bad] TS (0, 0)) := hf1.heap hb (fun h => h)
  have ho1 := hf1.own ho (fun _ _ h => h)
  have d1 : w1.cell? ⟨b, 1, none⟩ = some (.slice ao bs.length cap) := by rw [cell_heap hb1]; rfl
  have hsrc : 0 < (cells bs).length → ∃ ad, ao = some ad ∧ ∀ j v, (cells bs)[j]? = some v → w1.cell? (ad.add j) = some v := by
    intro hp
    rcases ho1.2 with ⟨he, h0⟩ | ⟨g, cp, cur, he, _⟩
    · rw [cells_length] at hp; omega
    · cases he
      exact ⟨_, rfl, ho1.cells (g := g) rfl⟩
  have hone : ∀ v ∈ cells bs, v.oneCell' = true := by
    intro v hv
    obtain ⟨c, _, rfl⟩ := List.mem_map.1 hv
    rfl
  have HS := Lib.hid hsrc
  have HO := Lib.hid hone
  have HO0 := Lib.hid ho
  have HZ := Lib.hid hzg
  clear hsrc hone ho ho1 hzg
  obtain ⟨cs, hcs⟩ : ∃ cs, cs = cells bs := ⟨_, rfl⟩
  rw [← hcs] at HS HO
  have HC := Lib.hid hcs
  have hcl : cs.length = bs.length := by rw [hcs, cells_length]
  clear hcs
  have hsz : (Try.prog.info? T8).map (·.size) = some 1 := by rw [show Try.prog.info? T8 = some i0 from hi]; simp [hz1]
  go_wp2_with (first
    | (refine wpList_copy_splice rfl _ _ 31 31 rfl T8 Try.underlying31 hsz _ _ _ _ _ _ rfl rfl w.heap.size 0 zs T8 HZ.out cs ?k1 (fun hp => ⟨rfl, HS.out hp⟩) ?k2 HO.out w.heap.size w hB1 (Nat.le_refl _) ?_)
    | go_in)
  case k1 => simp [hcl]
  case k2 => omega
  intro w2 HG hB2
  have hf2 : Fr (fun _ => False) w w2 := Fr.ofBelow hB2
  have hb2 : w2.heap[b]? = some (.cells #[.int .i64 lim, .slice ao bs.length cap, .bool bad] TS (0, 0)) := hf2.heap hb (fun h => h)
  have e1 : w2.cell? ⟨b, 1, none⟩ = some (.slice ao bs.length cap) := by rw [cell_heap hb2]; rfl
  have e2 : w2.frozen? ⟨b, 1, none⟩ = false := free_heap hb2 1
  have hspl : splice zs 0 cs = cells bs := by
    rw [← HC.out]
    simp only [splice, List.take_zero, List.nil_append, Nat.zero_add]
    rw [List.drop_of_length_le (by omega), List.append_nil]
  rw [hspl] at HG
  have hcv : ∀ u, (convert 31 9 (.slice (some ⟨w.heap.size, 0, none⟩) bs.length bs.length)).run Try.prog (w2.setCell ⟨b, 1, none⟩ u) = .ok (.string ⟨bs.toArray⟩) (w2.setCell ⟨b, 1, none⟩ u) := by
    intro u
    have hg := heap_far HG.out (p := ⟨b, 1, none⟩) (by have := Bs.blk_lt hb; show w.heap.size ≠ b; omega) u
    rw [cells_nums] at hg
    have := own_string (P := Try.prog) (w := w2.setCell ⟨b, 1, none⟩ u) (base := 0) (n := bs.length) (e' := T8) (v := .slice (some ⟨w.heap.size, 0, none⟩) bs.length bs.length) (xs := bs.map fun c => (c.toNat : Int)) Try.underlying31 Try.underlying5 Try.underlying9
      ⟨by simp [nums], .inr ⟨_, _, _, rfl, Nat.zero_le _, hg, Nat.le_refl _, by unfold maxLen; omega, by simp [nums], by rw [List.take_of_length_le (by simp [nums])]⟩⟩
    rw [str_bytes] at this
    exact this
  have HO2 := Lib.hid (hf2.own HO0.out (fun _ _ h => h))
  have hfin : ∀ u, Fr (fun k => k = b) w (w2.setCell ⟨b, 1, none⟩ u) := fun u => Fr.set (S := fun k => k = b) (hf2.mono (fun _ h => h.elim)) (p := ⟨b, 1, none⟩) (.inl rfl) u
  have HF := Lib.hid hfin
  clear hfin
  go_wp2
  go_ret
  have hown := own_cut HO2.out
  have hne2 : ∀ g, (Value.slice ao 0 cap).ownBlock = some g → g ≠ b := fun g hg e => hne (by rw [own_cut_block, hg, e])
  refine ⟨rfl, ⟨.slice ao 0 cap, hB, by simpa using heap_set hb2 1 (.slice ao 0 cap), ?_, (own_cut_block ao bs.length cap).symm⟩, HF.out _⟩
  exact ((Fr.refl (fun k => k = b) w2).set (p := ⟨b, 1, none⟩) (.inl rfl) (.slice ao 0 cap)).own hown hne2
end Go.Proofs.Ytmldibphbilghaa.Spl
