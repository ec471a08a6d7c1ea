/- The contracts of strings.Builder's copyCheck and WriteByte: behind copyCheck the builder holds what it held; WriteByte appends the byte (the new length within 2^47). -/
import Derived.Test.YtmldibphbilghaaShelf
import Derived.Test.YtmldibphbilghaaBase
import Derived.KernelRfl
import Derived.Lib.Hide
import Derived.Shelf.Strings.Builder1
import Derived.Lib.OthersKept
namespace Go.Proofs.Ytmldibphbilghaa.Bld
open Go.RowKit Go.Proofs.Ytmldibphbilghaa.Bs
set_option linter.unusedVariables false
set_option linter.unusedSimpArgs false

abbrev TB : Nat := 85
abbrev T8 : Nat := 5
theorem info8 : (Try.prog.info? 5).map (fun i => (i.zero, i.size, i.bytes)) = some (some (.int .u8 0), 1, 1) := by kernel_rfl
theorem infoB : (Try.prog.info? 85).map (fun i => i.size) = some 2 := by kernel_rfl
theorem liesB : liesAt Try.prog Try.prog.depth 85 (2 / Try.prog.cellsOf 85) 0 85 1 = true := by kernel_rfl
theorem noescape_fn : Try.prog.funcs[55]? = some Try.f55 := Try.func55

theorem copyCheck_used (b : Nat) (w : World) (h0 : w.cell? ⟨b, 0, none⟩ = some (.pointer (some ⟨b, 0, none⟩))) :
    Calls Try.prog 54 #[.pointer (some ⟨b, 0, none⟩)] w fun e w' => e = .returned (.tuple #[]) ∧ w' = w := by
  obtain ⟨j, hj, _⟩ := Option.map_eq_some_iff.1 infoB
  go_enter Try.func54, Try.ntmps54
  go_wp2
  rw [Lib.run_neq_ptr_same w _ Try.underlying83 hj]
  go_wp2
  go_end0
  exact ⟨rfl, rfl⟩

theorem copyCheck_fresh (b : Nat) (w : World) (h0 : w.cell? ⟨b, 0, none⟩ = some (.pointer none)) (hsh : w.shape? b = some (TB, 2)) (hfz : w.frozen? ⟨b, 0, none⟩ = false) :
    Calls Try.prog 54 #[.pointer (some ⟨b, 0, none⟩)] w fun e w' => e = .returned (.tuple #[]) ∧ w' = w.setCell ⟨b, 0, none⟩ (.pointer (some ⟨b, 0, none⟩)) := by
  obtain ⟨j, hj, hjs⟩ := Option.map_eq_some_iff.1 infoB
  go_enter Try.func54, Try.ntmps54
  go_wp2
  rw [Lib.run_to_unsafe w ⟨b, 0, none⟩ Try.underlying83 Try.underlying91 hj (by rw [hjs]; decide) hsh (Nat.zero_lt_succ 1)]
  simp only [Result.andThen]
  rw [Oper.upon_value]
  go_wp2
  rw [run_callFunc_extern noescape_fn (by kernel_rfl) (by kernel_rfl) (by kernel_rfl) (e := Extern.AbiNoEscape.same) (by kernel_rfl)]
  rw [Lib.run_noEscape]
  simp only [Result.andThen]
  rw [Oper.upon_value]
  go_wp2
  rw [Lib.run_from_unsafe w ⟨b, 0, none⟩ Try.underlying91 Try.underlying83 hj hsh liesB]
  simp only [Result.andThen]
  rw [Oper.upon_value]
  go_wp2
  go_end0
  exact ⟨rfl, rfl⟩

/-- A builder at block b (from B on) that holds the bytes bs, in a row of its own at block ob (none: nothing was written). -/
def At (B b : Nat) (ob : Option Nat) (bs : List Value) (w : World) : Prop :=
  ∃ p v, (p = .pointer none ∨ p = .pointer (some ⟨b, 0, none⟩)) ∧ B ≤ b ∧ w.heap[b]? = some (.cells #[p, v] TB (0, 0)) ∧ w.ownsRow B T8 1 v bs.length bs ∧ v.ownBlock = ob

theorem At.lt {B b : Nat} {ob : Option Nat} {bs : List Value} {w : World} (h : At B b ob bs w) : b < w.heap.size := by
  obtain ⟨p, v, _, _, hb, _⟩ := h
  exact blk_lt hb
theorem At.le {B b : Nat} {ob : Option Nat} {bs : List Value} {w : World} (h : At B b ob bs w) : B ≤ b := by
  obtain ⟨p, v, _, hB, _⟩ := h
  exact hB
theorem At.row {B b : Nat} {ob : Option Nat} {bs : List Value} {w : World} (h : At B b ob bs w) {g : Nat} (hg : ob = some g) : B ≤ g ∧ g < w.heap.size ∧ g ≠ b := by
  obtain ⟨p, v, _, _, hb, ho, rfl⟩ := h
  exact ⟨(own_lt ho hg).1, (own_lt ho hg).2, fun e => own_ne ho hb (by decide) (by rw [hg, e])⟩
theorem At.fr {B b : Nat} {ob : Option Nat} {bs : List Value} {w w' : World} {S : Nat → Prop} (h : At B b ob bs w) (hf : Fr S w w') (h1 : ¬ S b) (h2 : ∀ g, ob = some g → ¬ S g) : At B b ob bs w' := by
  obtain ⟨p, v, hp, hB, hb, ho, rfl⟩ := h
  exact ⟨p, v, hp, hB, hf.heap hb h1, hf.own ho h2, rfl⟩
theorem At.is {B b : Nat} {ob : Option Nat} {bs : List Value} {w : World} (h : At B b ob bs w) : Lib.IsBuilder TB T8 B b bs w := by
  obtain ⟨p, v, hp, hB, hb, ho, rfl⟩ := h
  have hne := own_ne ho hb (show TB ≠ T8 by decide)
  rcases hp with rfl | rfl
  · exact .inl ⟨hB, v, hb, ho, hne⟩
  · exact .inr ⟨hB, v, hb, ho, hne⟩
/-- A builder that a call has just made. -/
theorem At.fresh (w : World) (B : Nat) (hB : B ≤ w.heap.size) : At B w.heap.size none [] (w.alloc (.cells #[.pointer none, .slice none 0 0] TB)) :=
  ⟨_, _, .inl rfl, hB, heap_new w _, ⟨by simp, .inl ⟨rfl, rfl⟩⟩, rfl⟩

/-- What a write may turn. -/
def Foot (b : Nat) (ob : Option Nat) (k : Nat) : Prop := k = b ∨ ob = some k
/-- Where the row lies then: where it lay, or in a new block. -/
def Moved (w : World) (ob ob' : Option Nat) : Prop := ob' = ob ∨ ∃ g, ob' = some g ∧ w.heap.size ≤ g

theorem copyCheck_c (B b : Nat) (ob : Option Nat) (bs : List Value) (w : World) (h : At B b ob bs w) :
    Calls Try.prog 54 #[.pointer (some ⟨b, 0, none⟩)] w fun e w' => e = .returned (.tuple #[]) ∧
      ∃ v, B ≤ b ∧ w'.heap[b]? = some (.cells #[.pointer (some ⟨b, 0, none⟩), v] TB (0, 0)) ∧ w'.ownsRow B T8 1 v bs.length bs ∧ v.ownBlock = ob ∧ Fr (Foot b ob) w w' := by
  obtain ⟨p, v, hp, hB, hb, ho, rfl⟩ := h
  have hne := own_ne ho hb (show TB ≠ T8 by decide)
  rcases hp with rfl | rfl
  · refine (copyCheck_fresh b w (by rw [cell_heap hb]; rfl) (by simp [World.shape?, hb]) (free_heap hb 0)).mono ?_
    rintro e w' ⟨rfl, rfl⟩
    have hf : Fr (Foot b v.ownBlock) w (w.setCell ⟨b, 0, none⟩ (.pointer (some ⟨b, 0, none⟩))) := (Fr.refl _ w).set (.inl (.inl rfl)) _
    refine ⟨rfl, v, hB, by simpa using heap_set hb 0 (.pointer (some ⟨b, 0, none⟩)), ?_, rfl, hf⟩
    exact ((Fr.refl (fun k => k = b) w).set (p := ⟨b, 0, none⟩) (.inl rfl) _).own ho (fun g hg e => hne (by rw [hg, e]))
  · refine (copyCheck_used b w (by rw [cell_heap hb]; rfl)).mono ?_
    rintro e w' ⟨rfl, rfl⟩
    exact ⟨rfl, v, hB, hb, ho, rfl, Fr.refl _ _⟩

/-- Its bytes. -/
abbrev cells (l : List UInt8) : List Value := Lib.byteCells l
theorem cells_snoc (l : List UInt8) (c : UInt8) : cells (l ++ [c]) = cells l ++ [.int .u8 c.toNat] := by simp [cells, Lib.byteCells]
theorem cells_append (l m : List UInt8) : cells (l ++ m) = cells l ++ cells m := by simp [cells, Lib.byteCells]
theorem cells_length (l : List UInt8) : (cells l).length = l.length := by simp [cells, Lib.byteCells]

/-- String tells the bytes. -/
theorem string_c (B b : Nat) (ob : Option Nat) (l : List UInt8) (w : World) (h : At B b ob (cells l) w) (hB : B ≤ w.heap.size) :
    Calls Try.prog 51 #[.pointer (some ⟨b, 0, none⟩)] w fun e w' => e = .returned (.string ⟨l.toArray⟩) ∧ Below B w w' :=
  Try.Builder_String_any B b l w h.is hB
/-- A builder at b, made since w, that holds the bytes l; beside it block g holds o, and is none of the builder's. -/
def BIn (w : World) (b g : Nat) (o : Obj) (l : List UInt8) (wr : World) : Prop :=
  ∃ ob, At w.heap.size b ob (cells l) wr ∧ Fr (fun _ => False) w wr ∧ wr.heap[g]? = some o ∧ g ≠ b ∧ ob ≠ some g
theorem BIn.below {w wr : World} {b g : Nat} {o : Obj} {l : List UInt8} (h : BIn w b g o l wr) : Below w.heap.size w wr := by
  obtain ⟨ob, _, hf, _⟩ := h
  exact hf.toBelow (fun _ hi => hi.elim) (Nat.le_refl _)
theorem BIn.drewN {w wr : World} {b g : Nat} {o : Obj} {l : List UInt8} (h : BIn w b g o l wr) (q : Nat) : BIn w b g o l (wr.drewN q) := by
  obtain ⟨ob, hA, hF, hg, h1, h2⟩ := h
  exact ⟨ob, hA, hF.drewN q, hg, h1, h2⟩
theorem BIn.block {w wr : World} {b g : Nat} {o : Obj} {l : List UInt8} (h : BIn w b g o l wr) : wr.heap[g]? = some o := by
  obtain ⟨ob, _, _, hg, _⟩ := h
  exact hg
theorem BIn.size {w wr : World} {b g : Nat} {o : Obj} {l : List UInt8} (h : BIn w b g o l wr) : w.heap.size ≤ wr.heap.size := h.below.size
theorem BIn.step {w wr w' : World} {b g : Nat} {o : Obj} {l : List UInt8} {ob ob' : Option Nat} {l' : List UInt8} (hA : At w.heap.size b ob (cells l) wr) (hF : Fr (fun _ => False) w wr) (hg : wr.heap[g]? = some o) (hgb : g ≠ b) (hne : ob ≠ some g)
    (hA' : At w.heap.size b ob' (cells l') w') (hm : Moved wr ob ob') (hf : Fr (Foot b ob) wr w') : BIn w b g o l' w' := by
  refine ⟨ob', hA', hF.trans hf (fun i hi => .inr ?_), hf.heap hg (fun hx => hx.elim hgb hne), hgb, ?_⟩
  · rcases hi with rfl | hi
    · exact hA.le
    · exact (hA.row hi).1
  · rcases hm with rfl | ⟨k, rfl, hk⟩
    · exact hne
    · intro e
      have : k = g := by injection e
      have := blk_lt hg
      omega
theorem string_in {w wr : World} {b g : Nat} {o : Obj} {l : List UInt8} (h : BIn w b g o l wr) :
    Calls Try.prog 51 #[.pointer (some ⟨b, 0, none⟩)] wr fun e w' => e = .returned (.string ⟨l.toArray⟩) ∧ Below w.heap.size w w' := by
  obtain ⟨ob, hA, hF, _⟩ := h
  refine (string_c _ _ _ _ _ hA hF.size).mono ?_
  rintro e w' ⟨rfl, hb⟩
  exact ⟨rfl, (hF.toBelow (fun _ hi => hi.elim) (Nat.le_refl _)).trans hb⟩
/-- 'var b strings.Builder; for .. range []byte(s)': the builder, and the bytes' row. -/
theorem begin_bytes (w : World) (s : ByteArray) : ∃ o, (∀ wr : World, wr.heap[w.heap.size + 1]? = some o → ∀ j, j < s.size → wr.cell? ⟨w.heap.size + 1, j, none⟩ = some (.int .u8 (s.data.toList.getD j 0).toNat)) ∧
    BIn w w.heap.size (w.heap.size + 1) o [] (Lib.bytesWorld (w.alloc (.cells #[.pointer none, .slice none 0 0] 85)) 5 s) := by
  have hs1 := Lib.bytesWorld_at_new (w.alloc (.cells #[.pointer none, .slice none 0 0] 85)) 5 s
  rw [World.size_alloc] at hs1
  exact ⟨_, fun wr hwr j hj => bytes_cell hwr j hj, none, (At.fresh w _ (Nat.le_refl _)).fr (bytes_fr _ _ _) (fun h => h) (fun _ h => by cases h), ((Fr.refl _ w).alloc _).trans (bytes_fr _ _ _) (fun _ h => h.elim), hs1, by omega, by simp⟩
/-- The iterator beside a builder is moved on. -/
theorem BIn.iterAt {w wr : World} {b g : Nat} {s : ByteArray} {pos : Nat} {l : List UInt8} (h : BIn w b g (.stringIter s pos) l wr) (hg : w.heap.size ≤ g) (pos' : Nat) : BIn w b g (.stringIter s pos') l (wr.iterAt g s pos') := by
  obtain ⟨ob, hA, hF, hit, hgb, hne⟩ := h
  have hf : Fr (fun k => k = g) wr (wr.iterAt g s pos') := ⟨rfl, rfl, rfl, by rw [Lib.iterAt_size]; exact Nat.le_refl _, fun k _ hk => Lib.iterAt_other wr g k s pos' hk⟩
  exact ⟨ob, hA.fr hf (fun e => hgb e.symm) (fun k hk e => hne (by rw [hk, e])), hF.trans hf (fun i hi => .inr (by rw [hi]; exact hg)), Lib.iterAt_heap wr g s pos pos' hit, hgb, hne⟩
/-- 'var b strings.Builder; for _, r := range s': the builder, and the iterator. -/
theorem begin_iter (w : World) (s : ByteArray) : BIn w w.heap.size (w.heap.size + 1) (.stringIter s 0) [] ((w.alloc (.cells #[.pointer none, .slice none 0 0] 85)).alloc (.stringIter s 0)) := by
  refine ⟨none, (At.fresh w _ (Nat.le_refl _)).fr ((Fr.refl (fun _ => False) _).alloc _) (fun h => h) (fun _ h => by cases h), ((Fr.refl _ w).alloc _).alloc _, ?_, by omega, by simp⟩
  have := heap_new (w.alloc (.cells #[.pointer none, .slice none 0 0] 85)) (.stringIter s 0)
  rwa [World.size_alloc] at this
theorem BIn.iterPos {w wr : World} {b g : Nat} {s : ByteArray} {pos : Nat} {l : List UInt8} (h : BIn w b g (.stringIter s pos) l wr) : wr.iterPos g = pos := by
  simp [World.iterPos, h.block]
/-- 'next' on the iterator beside a builder. -/
theorem BIn.next {w wr : World} {b g : Nat} {s : ByteArray} {pos : Nat} {l : List UInt8} (h : BIn w b g (.stringIter s pos) l wr) (hg : w.heap.size ≤ g) (hp : pos < s.size) :
    ∃ wn, (∀ ty, (Instr.next (.pointer (some ⟨g, 0, none⟩)) true ty).run Try.prog wr = .ok (.tuple #[.bool true, .int .i64 pos, .int .i32 (Utf8.decode s pos).1]) wn) ∧
      BIn w b g (.stringIter s (pos + (Utf8.decode s pos).2)) l wn :=
  ⟨_, fun ty => Lib.run_next_any_at wr g s pos ty h.block hp, h.iterAt hg _⟩
theorem BIn.nextEnd {w wr : World} {b g : Nat} {s : ByteArray} {pos : Nat} {l : List UInt8} (h : BIn w b g (.stringIter s pos) l wr) (hp : ¬ pos < s.size) :
    ∀ ty, (Instr.next (.pointer (some ⟨g, 0, none⟩)) true ty).run Try.prog wr = .ok (.tuple #[.bool false]) wr :=
  fun ty => Lib.run_next_end_at wr g s pos ty h.block hp
end Go.Proofs.Ytmldibphbilghaa.Bld
