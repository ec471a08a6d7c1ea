/- The contract of (*strings.Builder).Write: it appends the bytes that lie at the slice's address. -/
import Derived.Test.YtmldibphbilghaaBuilder
import Derived.Lib.SlBytesRow
namespace Go.Proofs.Ytmldibphbilghaa.Bld
open Go.RowKit Go.Proofs.Ytmldibphbilghaa.Bs
set_option linter.unusedVariables false
set_option linter.unusedSimpArgs false
theorem byte_cells_at {w : World} {g : Nat} {s : ByteArray} (h : Lib.Bytes w g 0 s) : ∀ j v, (cells s.data.toList)[j]? = some v → w.cell? ((⟨g, 0, none⟩ : Addr).add j) = some v := by
  intro j v hj
  have hl : s.data.toList.length = s.size := by simp
  have hlt : j < s.size := by
    have := (List.getElem?_eq_some_iff.1 hj).1
    rw [cells_length, hl] at this
    exact this
  have := h j hlt
  rw [Nat.zero_add] at this
  rw [show (⟨g, 0, none⟩ : Addr).add j = ⟨g, j, none⟩ by simp [Addr.add]; intro e; exact e.symm, this]
  simp only [cells, Lib.byteCells, List.getElem?_map] at hj
  rw [List.getElem?_eq_getElem (by rw [hl]; exact hlt)] at hj
  simp at hj
  rw [← hj]
  rfl
set_option maxHeartbeats 2000000 in
set_option maxRecDepth 100000 in
theorem write_c (B b : Nat) (ob : Option Nat) (l : List UInt8) (g0 cp : Nat) (s : ByteArray) (w : World) (h : At B b ob (cells l) w) (hs : Lib.Bytes w g0 0 s) (hne0 : g0 ≠ b) (hob0 : ob ≠ some g0) (hlen : l.length + s.size ≤ 140737488355328) (hBw : B ≤ w.heap.size) :
    Calls Try.prog 52 #[.pointer (some ⟨b, 0, none⟩), .slice (some ⟨g0, 0, none⟩) s.size cp] w fun e w' => e = .returned (.tuple #[.int .i64 s.size, .nilIface]) ∧
      ∃ ob', At B b ob' (cells (l ++ s.data.toList)) w' ∧ Moved w ob ob' ∧ Fr (Foot b ob) w w' := by
  obtain ⟨i0, hi, hz0, hz1, hz2⟩ := info_parts info8
  go_enter Try.func52, Try.ntmps52
  go_wp2_with (go_at_call 54; refine (copyCheck_c B b ob _ _ h).mono ?_)
  rintro e w1 ⟨rfl, v, hB, hbk, hown, hob, hf1⟩
  have HOB := Lib.hid hob
  clear hob
  have c0 : w1.cell? ⟨b, 0, none⟩ = some (.pointer (some ⟨b, 0, none⟩)) := by rw [cell_heap hbk]; rfl
  have c1 : w1.cell? ⟨b, 1, none⟩ = some v := by rw [cell_heap hbk]; rfl
  have hne := own_ne hown hbk (show TB ≠ T8 by decide)
  have hs1 : Lib.Bytes w1 g0 0 s := fun i hi => hf1.cell (hs i hi) (fun hx => hx.elim hne0 hob0)
  have hcl : (cells s.data.toList).length = s.size := by rw [cells_length]; simp
  go_wp2_with (at_builtin; refine wpList_append_own_at _ rfl _ _ 31 rfl B T8 i0 (.int .u8 0) 1 1 Try.underlying31 hi hz0 hz1 hz2 rfl (by decide) _ _ _ rfl hown ⟨g0, 0, none⟩ s.size cp (cells s.data.toList) rfl (by rw [hcl, Nat.mul_one]) ?c1 ?c2 ?c3 ?c4 ?c5 ?_)
  case c1 => exact byte_cells_at hs1
  case c2 =>
    intro u hu
    simp only [cells, Lib.byteCells, List.mem_map] at hu
    obtain ⟨c, _, rfl⟩ := hu
    rfl
  case c3 => unfold maxLen; rw [cells_length]; omega
  case c4 => rw [cells_length]; omega
  case c5 => have := hf1.size; omega
  intro v' w2 hown' hgrow _ hat
  have hb2 : w2.heap[b]? = some (.cells #[.pointer (some ⟨b, 0, none⟩), v] TB (0, 0)) := by
    rw [hgrow.block b (blk_lt hbk) (fun e => hne e.symm)]
    exact hbk
  have d0 : w2.cell? ⟨b, 0, none⟩ = some (.pointer (some ⟨b, 0, none⟩)) := by rw [cell_heap hb2]; rfl
  have d1 : w2.cell? ⟨b, 1, none⟩ = some v := by rw [cell_heap hb2]; rfl
  have f1 : w2.frozen? ⟨b, 1, none⟩ = false := free_heap hb2 1
  have hf2 : Fr (Foot b ob) w (w2.setCell ⟨b, 1, none⟩ v') :=
    (hf1.grown hgrow (fun k hk => .inl (.inr (by rw [← HOB.out]; exact hk)))).set (.inl (.inl rfl)) _
  have hmv : Moved w ob v'.ownBlock := by
    rcases hat with hat | hat
    · exact .inl (by rw [hat, HOB.out])
    · exact .inr ⟨_, hat, hf1.size⟩
  have hat2 : At B b v'.ownBlock (cells (l ++ s.data.toList)) (w2.setCell ⟨b, 1, none⟩ v') := by
    refine ⟨_, v', .inr rfl, hB, by simpa using heap_set hb2 1 v', ?_, rfl⟩
    have hne2 := own_ne hown' hb2 (show TB ≠ T8 by decide)
    have := ((Fr.refl (fun k => k = b) w2).set (p := ⟨b, 1, none⟩) (.inl rfl) v').own hown' (fun g hg e => hne2 (by rw [hg, e]))
    rw [cells_append, List.length_append, hcl]
    exact this
  have HF := Lib.hid hf2
  have HA := Lib.hid hat2
  obtain ⟨A2, cap, rfl⟩ : ∃ A2 cap, v' = .slice A2 ((cells l).length + s.size) cap := Bs.own_slice hown'
  clear hf2 hat2 hat hown' hs hs1
  go_wp2
  go_ret2
  exact ⟨rfl, _, HA.out, hmv, HF.out⟩
end Go.Proofs.Ytmldibphbilghaa.Bld
