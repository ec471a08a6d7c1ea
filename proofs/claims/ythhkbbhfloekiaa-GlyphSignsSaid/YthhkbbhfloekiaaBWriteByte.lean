/- The contract of (*strings.Builder).WriteByte: it appends the byte, where the new length is within 2^47. -/
import Derived.Test.YthhkbbhfloekiaaBuilder
namespace Go.Proofs.Ythhkbbhfloekiaa.Bld
open Go.RowKit Go.Proofs.Ythhkbbhfloekiaa.Bs
set_option linter.unusedVariables false
set_option linter.unusedSimpArgs false

set_option maxHeartbeats 2000000 in
set_option maxRecDepth 100000 in
theorem writeByte_c (B b : Nat) (ob : Option Nat) (bs : List Value) (c : Int) (w : World) (h : At B b ob bs w) (hlen : bs.length + 1 ≤ 140737488355328) (hBw : B ≤ w.heap.size) :
    Calls Try.prog 19 #[.pointer (some ⟨b, 0, none⟩), .int .u8 c] w fun e w' => e = .returned .nilIface ∧
      ∃ ob', At B b ob' (bs ++ [.int .u8 c]) w' ∧ Moved w ob ob' ∧ Fr (Foot b ob) w w' := by
  obtain ⟨i0, hi, hz0, hz1, hz2⟩ := info_parts info8
  go_enter Try.func19, Try.ntmps19
  go_wp2_with (go_at_call 20; refine (copyCheck_c B b ob bs _ h).mono ?_)
  rintro e w1 ⟨rfl, v, hB, hbk, hown, hob, hf1⟩
  have HOB := Lib.hid hob
  clear hob
  have c0 : w1.cell? ⟨b, 0, none⟩ = some (.pointer (some ⟨b, 0, none⟩)) := by rw [cell_heap hbk]; rfl
  have c1 : w1.cell? ⟨b, 1, none⟩ = some v := by rw [cell_heap hbk]; rfl
  have hne := own_ne hown hbk (show TB ≠ T8 by decide)
  go_wp2_with (at_builtin; refine wpList_append_own_at _ rfl _ _ 36 rfl B T8 i0 (.int .u8 0) 1 1 Try.underlying36 hi hz0 hz1 hz2 rfl (by decide) _ _ _ rfl (hown.alloc _) ⟨w1.heap.size, 0, none⟩ 1 1 [.int .u8 c] rfl rfl ?c1 ?c2 ?c3 ?c4 ?c5 ?_)
  case c1 =>
    intro j u hj
    match j, hj with
    | 0, hj => simp at hj; subst hj; simp [Addr.add]
  case c2 => intro u hu; simp at hu; subst hu; rfl
  case c3 => unfold maxLen; omega
  case c4 => omega
  case c5 => have := hf1.size; simp; omega
  intro v' w2 hown' hgrow _ hat
  have hb2 : w2.heap[b]? = some (.cells #[.pointer (some ⟨b, 0, none⟩), v] TB (0, 0)) := by
    rw [hgrow.block b (by have := blk_lt hbk; simp; omega) (fun e => hne e.symm)]
    exact heap_old hbk _
  have d0 : w2.cell? ⟨b, 0, none⟩ = some (.pointer (some ⟨b, 0, none⟩)) := by rw [cell_heap hb2]; rfl
  have d1 : w2.cell? ⟨b, 1, none⟩ = some v := by rw [cell_heap hb2]; rfl
  have f1 : w2.frozen? ⟨b, 1, none⟩ = false := free_heap hb2 1
  have hf2 : Fr (Foot b ob) w (w2.setCell ⟨b, 1, none⟩ v') :=
    ((hf1.alloc _).grown hgrow (fun k hk => .inl (.inr (by rw [← HOB.out]; exact hk)))).set (.inl (.inl rfl)) _
  have hmv : Moved w ob v'.ownBlock := by
    rcases hat with hat | hat
    · exact .inl (by rw [hat, HOB.out])
    · exact .inr ⟨_, hat, by have := hf1.size; simp; omega⟩
  have hat2 : At B b v'.ownBlock (bs ++ [.int .u8 c]) (w2.setCell ⟨b, 1, none⟩ v') := by
    refine ⟨_, v', .inr rfl, hB, by simpa using heap_set hb2 1 v', ?_, rfl⟩
    have hne2 := own_ne hown' hb2 (show TB ≠ T8 by decide)
    have := ((Fr.refl (fun k => k = b) w2).set (p := ⟨b, 1, none⟩) (.inl rfl) v').own hown' (fun g hg e => hne2 (by rw [hg, e]))
    simpa using this
  have HF := Lib.hid hf2
  have HA := Lib.hid hat2
  clear hf2 hat2 hat
  obtain ⟨g, cap, rfl⟩ : ∃ g cap, v' = .slice (some ⟨g, 0, none⟩) (bs.length + 1) cap := by
    rcases hown'.2 with ⟨_, h0⟩ | ⟨g, cap, cur, hv, _⟩
    · omega
    · exact ⟨g, cap, hv⟩
  go_wp2
  go_ret
  exact ⟨rfl, _, HA.out, hmv, HF.out⟩
theorem writeByte_in {w wr : World} {b g : Nat} {o : Obj} {l : List UInt8} (c : UInt8) (h : BIn w b g o l wr) (hlen : l.length + 1 ≤ 140737488355328) :
    Calls Try.prog 19 #[.pointer (some ⟨b, 0, none⟩), .int .u8 c.toNat] wr fun e w' => e = .returned .nilIface ∧ BIn w b g o (l ++ [c]) w' := by
  obtain ⟨ob, hA, hF, hg, hgb, hne⟩ := h
  refine (writeByte_c _ _ _ _ c.toNat _ hA (by rw [cells_length]; exact hlen) hF.size).mono ?_
  rintro e w' ⟨rfl, ob', hA', hm, hf⟩
  rw [← cells_snoc] at hA'
  exact ⟨rfl, BIn.step hA hF hg hgb hne hA' hm hf⟩
theorem writeByte_num {w wr : World} {b g : Nat} {o : Obj} {l : List UInt8} (n : Int) (m : Nat) (hn : n = m) (h1 : m < 256) (h : BIn w b g o l wr) (hlen : l.length + 1 ≤ 140737488355328) :
    Calls Try.prog 19 #[.pointer (some ⟨b, 0, none⟩), .int .u8 n] wr fun e w' => e = .returned .nilIface ∧ BIn w b g o (l ++ [UInt8.ofNat m]) w' := by
  have e : n = ((UInt8.ofNat m).toNat : Int) := by rw [hn, UInt8.toNat_ofNat']; omega
  rw [e]
  exact writeByte_in _ h hlen
end Go.Proofs.Ythhkbbhfloekiaa.Bld
