/- Layer 4 (source), its texts as one. -/
import Derived.Test.YtmldibphbilghaaShelf
import Derived.Test.YtmldibphbilghaaBase
import Derived.KernelRfl
import Derived.Lib.Hide
import Derived.Shelf.Strings.Builder1
import Derived.Lib.OthersKept
import Derived.Test.YtmldibphbilghaaSplit3
import Derived.Test.YtmldibphbilghaaSpFeeds
import Derived.StillTailTactics
import Derived.Stop.Asserts
import Derived.Lib.SlBytesRow
import Derived.Lib.BufferRead
import Derived.Test.YtmldibphbilghaaPr28
import Derived.Test.YtmldibphbilghaaPr27
namespace Go.Proofs.Ytmldibphbilghaa.Bld
open Go.RowKit Go.Proofs.Ytmldibphbilghaa.Bs
set_option linter.unusedVariables false
set_option linter.unusedSimpArgs false

abbrev TB : Nat := 85
abbrev T8 : Nat := 5
theorem info8 : (Try.prog.info? 5).map (fun i => (i.zero, i.size, i.bytes)) = some (some (.int .u8 0), 1, 1) := by kernel_rfl
theorem infoB : (Try.prog.info? 85).map (fun i => i.size) = some 2 := by kernel_rfl
theorem liesB : liesAt Try.prog Try.prog.depth 85 (2 / Try.prog.cellsOf 85) 0 85 1 = true := by kernel_rfl
theorem noescape_fn : Try.prog.funcs[55]? = some Try.f55 := Try.func55

theorem copyCheck_used (b : Nat) (w : World) (h0 : w.cell? ⟨b, 0, none⟩ = some (.pointer (some ⟨b, 0, none⟩))) :
    Calls Try.prog 54 #[.pointer (some ⟨b, 0, none⟩)] w fun e w' => e = .returned (.tuple #[]) ∧ w' = w := by
  obtain ⟨j, hj, _⟩ := Option.map_eq_some_iff.1 infoB
  go_enter Try.func54, Try.ntmps54
  go_wp2
  rw [Lib.run_neq_ptr_same w _ Try.underlying83 hj]
  go_wp2
  go_end0
  exact ⟨rfl, rfl⟩

theorem copyCheck_fresh (b : Nat) (w : World) (h0 : w.cell? ⟨b, 0, none⟩ = some (.pointer none)) (hsh : w.shape? b = some (TB, 2)) (hfz : w.frozen? ⟨b, 0, none⟩ = false) :
    Calls Try.prog 54 #[.pointer (some ⟨b, 0, none⟩)] w fun e w' => e = .returned (.tuple #[]) ∧ w' = w.setCell ⟨b, 0, none⟩ (.pointer (some ⟨b, 0, none⟩)) := by
  obtain ⟨j, hj, hjs⟩ := Option.map_eq_some_iff.1 infoB
  go_enter Try.func54, Try.ntmps54
  go_wp2
  rw [Lib.run_to_unsafe w ⟨b, 0, none⟩ Try.underlying83 Try.underlying91 hj (by rw [hjs]; decide) hsh (Nat.zero_lt_succ 1)]
  simp only [Result.andThen]
  rw [Oper.upon_value]
  go_wp2
  rw [run_callFunc_extern noescape_fn (by kernel_rfl) (by kernel_rfl) (by kernel_rfl) (e := Extern.AbiNoEscape.same) (by kernel_rfl)]
  rw [Lib.run_noEscape]
  simp only [Result.andThen]
  rw [Oper.upon_value]
  go_wp2
  rw [Lib.run_from_unsafe w ⟨b, 0, none⟩ Try.underlying91 Try.underlying83 hj hsh liesB]
  simp only [Result.andThen]
  rw [Oper.upon_value]
  go_wp2
  go_end0
  exact ⟨rfl, rfl⟩

/-- A builder at block b (from B on) that holds the bytes bs, in a row of its own at block ob (none: nothing was written). -/
def At (B b : Nat) (ob : Option Nat) (bs : List Value) (w : World) : Prop :=
  ∃ p v, (p = .pointer none ∨ p = .pointer (some ⟨b, 0, none⟩)) ∧ B ≤ b ∧ w.heap[b]? = some (.cells #[p, v] TB (0, 0)) ∧ w.ownsRow B T8 1 v bs.length bs ∧ v.ownBlock = ob

theorem At.lt {B b : Nat} {ob : Option Nat} {bs : List Value} {w : World} (h : At B b ob bs w) : b < w.heap.size := by
  obtain ⟨p, v, _, _, hb, _⟩ := h
  exact blk_lt hb
theorem At.le {B b : Nat} {ob : Option Nat} {bs : List Value} {w : World} (h : At B b ob bs w) : B ≤ b := by
  obtain ⟨p, v, _, hB, _⟩ := h
  exact hB
theorem At.row {B b : Nat} {ob : Option Nat} {bs : List Value} {w : World} (h : At B b ob bs w) {g : Nat} (hg : ob = some g) : B ≤ g ∧ g < w.heap.size ∧ g ≠ b := by
  obtain ⟨p, v, _, _, hb, ho, rfl⟩ := h
  exact ⟨(own_lt ho hg).1, (own_lt ho hg).2, fun e => own_ne ho hb (by decide) (by rw [hg, e])⟩
theorem At.fr {B b : Nat} {ob : Option Nat} {bs : List Value} {w w' : World} {S : Nat → Prop} (h : At B b ob bs w) (hf : Fr S w w') (h1 : ¬ S b) (h2 : ∀ g, ob = some g → ¬ S g) : At B b ob bs w' := by
  obtain ⟨p, v, hp, hB, hb, ho, rfl⟩ := h
  exact ⟨p, v, hp, hB, hf.heap hb h1, hf.own ho h2, rfl⟩
theorem At.is {B b : Nat} {ob : Option Nat} {bs : List Value} {w : World} (h : At B b ob bs w) : Lib.IsBuilder TB T8 B b bs w := by
  obtain ⟨p, v, hp, hB, hb, ho, rfl⟩ := h
  have hne := own_ne ho hb (show TB ≠ T8 by decide)
  rcases hp with rfl | rfl
  · exact .inl ⟨hB, v, hb, ho, hne⟩
  · exact .inr ⟨hB, v, hb, ho, hne⟩
/-- A builder that a call has just made. -/
theorem At.fresh (w : World) (B : Nat) (hB : B ≤ w.heap.size) : At B w.heap.size none [] (w.alloc (.cells #[.pointer none, .slice none 0 0] TB)) :=
  ⟨_, _, .inl rfl, hB, heap_new w _, ⟨by simp, .inl ⟨rfl, rfl⟩⟩, rfl⟩

/-- What a write may turn. -/
def Foot (b : Nat) (ob : Option Nat) (k : Nat) : Prop := k = b ∨ ob = some k
/-- Where the row lies then: where it lay, or in a new block. -/
def Moved (w : World) (ob ob' : Option Nat) : Prop := ob' = ob ∨ ∃ g, ob' = some g ∧ w.heap.size ≤ g

theorem copyCheck_c (B b : Nat) (ob : Option Nat) (bs : List Value) (w : World) (h : At B b ob bs w) :
    Calls Try.prog 54 #[.pointer (some ⟨b, 0, none⟩)] w fun e w' => e = .returned (.tuple #[]) ∧
      ∃ v, B ≤ b ∧ w'.heap[b]? = some (.cells #[.pointer (some ⟨b, 0, none⟩), v] TB (0, 0)) ∧ w'.ownsRow B T8 1 v bs.length bs ∧ v.ownBlock = ob ∧ Fr (Foot b ob) w w' := by
  obtain ⟨p, v, hp, hB, hb, ho, rfl⟩ := h
  have hne := own_ne ho hb (show TB ≠ T8 by decide)
  rcases hp with rfl | rfl
  · refine (copyCheck_fresh b w (by rw [cell_heap hb]; rfl) (by simp [World.shape?, hb]) (free_heap hb 0)).mono ?_
    rintro e w' ⟨rfl, rfl⟩
    have hf : Fr (Foot b v.ownBlock) w (w.setCell ⟨b, 0, none⟩ (.pointer (some ⟨b, 0, none⟩))) := (Fr.refl _ w).set (.inl (.inl rfl)) _
    refine ⟨rfl, v, hB, by simpa using heap_set hb 0 (.pointer (some ⟨b, 0, none⟩)), ?_, rfl, hf⟩
    exact ((Fr.refl (fun k => k = b) w).set (p := ⟨b, 0, none⟩) (.inl rfl) _).own ho (fun g hg e => hne (by rw [hg, e]))
  · refine (copyCheck_used b w (by rw [cell_heap hb]; rfl)).mono ?_
    rintro e w' ⟨rfl, rfl⟩
    exact ⟨rfl, v, hB, hb, ho, rfl, Fr.refl _ _⟩

/-- Its bytes. -/
abbrev cells (l : List UInt8) : List Value := Lib.byteCells l
theorem cells_snoc (l : List UInt8) (c : UInt8) : cells (l ++ [c]) = cells l ++ [.int .u8 c.toNat] := by simp [cells, Lib.byteCells]
theorem cells_append (l m : List UInt8) : cells (l ++ m) = cells l ++ cells m := by simp [cells, Lib.byteCells]
theorem cells_length (l : List UInt8) : (cells l).length = l.length := by simp [cells, Lib.byteCells]

/-- String tells the bytes. -/
theorem string_c (B b : Nat) (ob : Option Nat) (l : List UInt8) (w : World) (h : At B b ob (cells l) w) (hB : B ≤ w.heap.size) :
    Calls Try.prog 51 #[.pointer (some ⟨b, 0, none⟩)] w fun e w' => e = .returned (.string ⟨l.toArray⟩) ∧ Below B w w' :=
  Try.Builder_String_any B b l w h.is hB
/-- A builder at b, made since w, that holds the bytes l; beside it block g holds o, and is none of the builder's. -/
def BIn (w : World) (b g : Nat) (o : Obj) (l : List UInt8) (wr : World) : Prop :=
  ∃ ob, At w.heap.size b ob (cells l) wr ∧ Fr (fun _ => False) w wr ∧ wr.heap[g]? = some o ∧ g ≠ b ∧ ob ≠ some g
theorem BIn.below {w wr : World} {b g : Nat} {o : Obj} {l : List UInt8} (h : BIn w b g o l wr) : Below w.heap.size w wr := by
  obtain ⟨ob, _, hf, _⟩ := h
  exact hf.toBelow (fun _ hi => hi.elim) (Nat.le_refl _)
theorem BIn.drewN {w wr : World} {b g : Nat} {o : Obj} {l : List UInt8} (h : BIn w b g o l wr) (q : Nat) : BIn w b g o l (wr.drewN q) := by
  obtain ⟨ob, hA, hF, hg, h1, h2⟩ := h
  exact ⟨ob, hA, hF.drewN q, hg, h1, h2⟩
theorem BIn.block {w wr : World} {b g : Nat} {o : Obj} {l : List UInt8} (h : BIn w b g o l wr) : wr.heap[g]? = some o := by
  obtain ⟨ob, _, _, hg, _⟩ := h
  exact hg
theorem BIn.size {w wr : World} {b g : Nat} {o : Obj} {l : List UInt8} (h : BIn w b g o l wr) : w.heap.size ≤ wr.heap.size := h.below.size
theorem BIn.step {w wr w' : World} {b g : Nat} {o : Obj} {l : List UInt8} {ob ob' : Option Nat} {l' : List UInt8} (hA : At w.heap.size b ob (cells l) wr) (hF : Fr (fun _ => False) w wr) (hg : wr.heap[g]? = some o) (hgb : g ≠ b) (hne : ob ≠ some g)
    (hA' : At w.heap.size b ob' (cells l') w') (hm : Moved wr ob ob') (hf : Fr (Foot b ob) wr w') : BIn w b g o l' w' := by
  refine ⟨ob', hA', hF.trans hf (fun i hi => .inr ?_), hf.heap hg (fun hx => hx.elim hgb hne), hgb, ?_⟩
  · rcases hi with rfl | hi
    · exact hA.le
    · exact (hA.row hi).1
  · rcases hm with rfl | ⟨k, rfl, hk⟩
    · exact hne
    · intro e
      have : k = g := by injection e
      have := blk_lt hg
      omega
theorem string_in {w wr : World} {b g : Nat} {o : Obj} {l : List UInt8} (h : BIn w b g o l wr) :
    Calls Try.prog 51 #[.pointer (some ⟨b, 0, none⟩)] wr fun e w' => e = .returned (.string ⟨l.toArray⟩) ∧ Below w.heap.size w w' := by
  obtain ⟨ob, hA, hF, _⟩ := h
  refine (string_c _ _ _ _ _ hA hF.size).mono ?_
  rintro e w' ⟨rfl, hb⟩
  exact ⟨rfl, (hF.toBelow (fun _ hi => hi.elim) (Nat.le_refl _)).trans hb⟩
/-- 'var b strings.Builder; for .. range []byte(s)': the builder, and the bytes' row. -/
theorem begin_bytes (w : World) (s : ByteArray) : ∃ o, (∀ wr : World, wr.heap[w.heap.size + 1]? = some o → ∀ j, j < s.size → wr.cell? ⟨w.heap.size + 1, j, none⟩ = some (.int .u8 (s.data.toList.getD j 0).toNat)) ∧
    BIn w w.heap.size (w.heap.size + 1) o [] (Lib.bytesWorld (w.alloc (.cells #[.pointer none, .slice none 0 0] 85)) 5 s) := by
  have hs1 := Lib.bytesWorld_at_new (w.alloc (.cells #[.pointer none, .slice none 0 0] 85)) 5 s
  rw [World.size_alloc] at hs1
  exact ⟨_, fun wr hwr j hj => bytes_cell hwr j hj, none, (At.fresh w _ (Nat.le_refl _)).fr (bytes_fr _ _ _) (fun h => h) (fun _ h => by cases h), ((Fr.refl _ w).alloc _).trans (bytes_fr _ _ _) (fun _ h => h.elim), hs1, by omega, by simp⟩
/-- The iterator beside a builder is moved on. -/
theorem BIn.iterAt {w wr : World} {b g : Nat} {s : ByteArray} {pos : Nat} {l : List UInt8} (h : BIn w b g (.stringIter s pos) l wr) (hg : w.heap.size ≤ g) (pos' : Nat) : BIn w b g (.stringIter s pos') l (wr.iterAt g s pos') := by
  obtain ⟨ob, hA, hF, hit, hgb, hne⟩ := h
  have hf : Fr (fun k => k = g) wr (wr.iterAt g s pos') := ⟨rfl, rfl, rfl, by rw [Lib.iterAt_size]; exact Nat.le_refl _, fun k _ hk => Lib.iterAt_other wr g k s pos' hk⟩
  exact ⟨ob, hA.fr hf (fun e => hgb e.symm) (fun k hk e => hne (by rw [hk, e])), hF.trans hf (fun i hi => .inr (by rw [hi]; exact hg)), Lib.iterAt_heap wr g s pos pos' hit, hgb, hne⟩
/-- 'var b strings.Builder; for _, r := range s': the builder, and the iterator. -/
theorem begin_iter (w : World) (s : ByteArray) : BIn w w.heap.size (w.heap.size + 1) (.stringIter s 0) [] ((w.alloc (.cells #[.pointer none, .slice none 0 0] 85)).alloc (.stringIter s 0)) := by
  refine ⟨none, (At.fresh w _ (Nat.le_refl _)).fr ((Fr.refl (fun _ => False) _).alloc _) (fun h => h) (fun _ h => by cases h), ((Fr.refl _ w).alloc _).alloc _, ?_, by omega, by simp⟩
  have := heap_new (w.alloc (.cells #[.pointer none, .slice none 0 0] 85)) (.stringIter s 0)
  rwa [World.size_alloc] at this
theorem BIn.iterPos {w wr : World} {b g : Nat} {s : ByteArray} {pos : Nat} {l : List UInt8} (h : BIn w b g (.stringIter s pos) l wr) : wr.iterPos g = pos := by
  simp [World.iterPos, h.block]
/-- 'next' on the iterator beside a builder. -/
theorem BIn.next {w wr : World} {b g : Nat} {s : ByteArray} {pos : Nat} {l : List UInt8} (h : BIn w b g (.stringIter s pos) l wr) (hg : w.heap.size ≤ g) (hp : pos < s.size) :
    ∃ wn, (∀ ty, (Instr.next (.pointer (some ⟨g, 0, none⟩)) true ty).run Try.prog wr = .ok (.tuple #[.bool true, .int .i64 pos, .int .i32 (Utf8.decode s pos).1]) wn) ∧
      BIn w b g (.stringIter s (pos + (Utf8.decode s pos).2)) l wn :=
  ⟨_, fun ty => Lib.run_next_any_at wr g s pos ty h.block hp, h.iterAt hg _⟩
theorem BIn.nextEnd {w wr : World} {b g : Nat} {s : ByteArray} {pos : Nat} {l : List UInt8} (h : BIn w b g (.stringIter s pos) l wr) (hp : ¬ pos < s.size) :
    ∀ ty, (Instr.next (.pointer (some ⟨g, 0, none⟩)) true ty).run Try.prog wr = .ok (.tuple #[.bool false]) wr :=
  fun ty => Lib.run_next_end_at wr g s pos ty h.block hp
end Go.Proofs.Ytmldibphbilghaa.Bld

namespace Go.Proofs.Ytmldibphbilghaa.Src
open Go.RowKit Go.Proofs.Ytmldibphbilghaa.Bs Go.Proofs.YtmldibphbilghaaW.PrintWords Go.Proofs.YtmldibphbilghaaW.PrintLast Go.Proofs.YtmldibphbilghaaW.PrintMore
set_option linter.unusedVariables false
set_option linter.unusedSimpArgs false

abbrev TC : Nat := 76
abbrev TX : Nat := 9
def Scr (B b : Nat) (ob : Option Nat) (l : List ByteArray) (i : Nat) (fail : Int) (w : World) : Prop :=
  ∃ v, B ≤ b ∧ w.heap[b]? = some (.cells #[v, .int .i64 i, .int .i64 fail] TC (0, 0)) ∧ w.ownsRow B TX 1 v l.length (l.map Value.string) ∧ v.ownBlock = ob
section
variable {B b : Nat} {ob : Option Nat} {l : List ByteArray} {i : Nat} {fail : Int} {w w' : World}
theorem Scr.lt (h : Scr B b ob l i fail w) : b < w.heap.size := by
  obtain ⟨v, _, hb, _⟩ := h
  exact Bs.blk_lt hb
theorem Scr.le (h : Scr B b ob l i fail w) : B ≤ b := by
  obtain ⟨v, hB, _⟩ := h
  exact hB
theorem Scr.row (h : Scr B b ob l i fail w) {g : Nat} (hg : ob = some g) : B ≤ g ∧ g < w.heap.size ∧ g ≠ b := by
  obtain ⟨v, _, hb, ho, rfl⟩ := h
  exact ⟨(own_lt ho hg).1, (own_lt ho hg).2, fun e => Bs.own_ne ho hb (by decide) (by rw [hg, e])⟩
theorem Scr.fr {S : Nat → Prop} (h : Scr B b ob l i fail w) (hf : Fr S w w') (h1 : ¬ S b) (h2 : ∀ g, ob = some g → ¬ S g) : Scr B b ob l i fail w' := by
  obtain ⟨v, hB, hb, ho, rfl⟩ := h
  exact ⟨v, hB, hf.heap hb h1, hf.own ho h2, rfl⟩
end
/-- What the pieces from the i-th on tell: those that are not empty, up to fail; the error behind them. -/
def told (fail : Int) : Nat → List ByteArray → List ByteArray × Int
  | i, [] => ([], if (i : Int) = fail then 3 else 0)
  | i, s :: r => if (i : Int) = fail then ([], 3) else if s = ByteArray.empty then told fail (i + 1) r else (s :: (told fail (i + 1) r).1, (told fail (i + 1) r).2)
/-- How many bytes. -/
def size (fail : Int) : Nat → List ByteArray → Nat
  | i, [] => 0
  | i, s :: r => if (i : Int) = fail then 0 else s.size + size fail (i + 1) r
/-! ### New -/
theorem row_cells {w : World} {A : Option Addr} {l : List ByteArray} (h : Kd.C Kd.string w A l.length l) (hp : 0 < l.length) : ∃ g o, A = some ⟨g, o, none⟩ ∧ ∀ j, j < l.length → w.cell? ⟨g, o + j, none⟩ = some (.string (l.getD j ByteArray.empty)) := by
  obtain ⟨ad, rfl, h0⟩ := Kd.at_string h 0 (by omega) (by omega)
  obtain ⟨g, o, sp⟩ := ad
  have : sp = none := by
    cases sp with
    | none => rfl
    | some x =>
      simp only [World.cell?, Addr.add] at h0
      split at h0
      · simp at h0
      · cases h0
  subst this
  refine ⟨g, o, rfl, fun j hj => ?_⟩
  obtain ⟨ad, he, hc⟩ := Kd.at_string h (j : Int) (by omega) (by omega)
  cases he
  rw [Int.toNat_natCast] at hc
  rw [show (⟨g, o + j, none⟩ : Addr) = Addr.add ⟨g, o, none⟩ j from (by simp [Addr.add]), hc, Pure.rd_get l j hj, List.getD_eq_getElem?_getD, List.getElem?_eq_getElem hj]
  rfl
set_option maxHeartbeats 1000000 in
set_option maxRecDepth 100000 in
theorem clone_c (A : Option Addr) (c : Nat) (l : List ByteArray) (w : World) (h : Kd.C Kd.string w A l.length l) (hbig : l.length ≤ 1000000) :
    Calls Try.prog 46 #[.slice A l.length c] w fun e w' => ∃ v, e = .returned v ∧ w'.ownsRow w.heap.size TX 1 v l.length (l.map Value.string) ∧ Below w.heap.size w w' := by
  cases A with
  | none =>
    have : l = [] := by
      cases l with
      | nil => rfl
      | cons s r =>
        obtain ⟨g, o, he, _⟩ := row_cells h (by simp)
        cases he
    subst this
    refine (Try.slices_Clone_string_nil _ _ _).mono ?_
    rintro e w' ⟨rfl, rfl⟩
    exact ⟨_, rfl, ⟨rfl, .inl ⟨rfl, rfl⟩⟩, Below.refl _ _⟩
  | some ad =>
    by_cases hp : 0 < l.length
    · obtain ⟨g, o, he, hc⟩ := row_cells h hp
      cases he
      refine (Try.slices_Clone_string g o l.length c l w (Nat.le_refl _) (by omega) hc).mono ?_
      rintro e w' ⟨v, rfl, ho, _, hb⟩
      rw [List.take_of_length_le (Nat.le_refl _)] at ho
      exact ⟨_, rfl, ho, hb⟩
    · have : l = [] := List.eq_nil_of_length_eq_zero (by omega)
      subst this
      refine (Try.slices_Clone_string_zero _ _ _).mono ?_
      rintro e w' ⟨v, rfl, ho, _, hb⟩
      exact ⟨_, rfl, ho, hb⟩
set_option maxHeartbeats 1000000 in
set_option maxRecDepth 100000 in
theorem new_c (A : Option Addr) (c : Nat) (l : List ByteArray) (fail : Int) (w : World) (h : Kd.C Kd.string w A l.length l) (hbig : l.length ≤ 1000000) :
    Calls Try.prog 29 #[.slice A l.length c, .int .i64 fail] w fun e w' => ∃ b ob, e = .returned (.pointer (some ⟨b, 0, none⟩)) ∧ Scr w.heap.size b ob l 0 fail w' ∧ Fr (fun _ => False) w w' := by
  have HC := Lib.hid (clone_c A c l w h hbig)
  clear h
  go_enter Try.func29, Try.ntmps29
  go_wp2_with fail
  refine HC.out.mono ?_
  rintro e w1 ⟨v, rfl, ho, hb⟩
  obtain ⟨A1, c1, rfl⟩ := Bs.own_slice ho
  have HO := Lib.hid ho
  have HB := Lib.hid hb
  clear ho hb HC
  go_wp2_with fail
  go_ret
  have hf : Fr (fun _ => False) w1 (w1.alloc (.cells #[.slice A1 l.length c1, .int .i64 0, .int .i64 fail] TC)) := (Fr.refl _ _).alloc _
  exact ⟨w1.heap.size, _, rfl, ⟨_, HB.out.size, heap_new _ _, hf.own HO.out (fun _ _ h => h), rfl⟩, (Fr.ofBelow HB.out).trans hf (fun _ h => h.elim)⟩
/-! ### Next -/
/-- What Next hands back: the answers, and where the Script stands. -/
def nxt (fail : Int) : Nat → List ByteArray → Option ByteArray × Int × Nat
  | i, [] => if (i : Int) = fail then (none, 3, i) else (none, 0, i)
  | i, s :: r => if (i : Int) = fail then (none, 3, i) else if s = ByteArray.empty then nxt fail (i + 1) r else (some s, 0, i + 1)
/-- What Next hands back. -/
def Hands (w0 : World) (e : Ending) (w' : World) (o : Option ByteArray) (err : Int) : Prop :=
  match o with
  | none => e = .returned (.tuple #[.slice none 0 0, .bool false, .int .i64 err])
  | some s => ∃ cp, e = .returned (.tuple #[.slice (some ⟨w0.heap.size, 0, none⟩) s.size cp, .bool true, .int .i64 err]) ∧ w'.heap[w0.heap.size]? = some (.cells (Lib.bytesCells w0 5 s) 5 ((Lib.bytesCells w0 5 s).size, (Lib.bytesCells w0 5 s).size + 1))
set_option maxHeartbeats 1000000 in
set_option maxRecDepth 100000 in
theorem next_nil (w : World) : Calls Try.prog 32 #[.pointer none] w fun e w' => e = .returned (.tuple #[.slice none 0 0, .bool false, .int .i64 0]) ∧ w' = w := by
  go_enter Try.func32, Try.ntmps32
  go_wp2_with fail
  go_ret3
  exact ⟨rfl, rfl⟩
set_option maxHeartbeats 1000000 in
set_option maxRecDepth 100000 in
theorem size_nil (w : World) : Calls Try.prog 35 #[.pointer none] w fun e w' => e = .returned (.int .i64 0) ∧ w' = w := by
  go_enter Try.func35, Try.ntmps35
  go_wp2_with fail
  go_ret
  exact ⟨rfl, rfl⟩
set_option maxHeartbeats 1000000 in
set_option maxRecDepth 100000 in
theorem plain_nil (w : World) : Calls Try.prog 34 #[.pointer none] w fun e w' => e = .returned (.tuple #[.slice none 0 0, .bool false, .int .i64 0]) ∧ w' = w := by
  go_enter Try.func34, Try.ntmps34
  go_wp2_with fail
  go_ret3
  exact ⟨rfl, rfl⟩
theorem empty_of {s : ByteArray} (h : s.toList.isEmpty = true) : s = ByteArray.empty := by
  have h2 : s.data.toList = [] := by
    have := List.isEmpty_iff.1 h
    rwa [ByteArray.toList_eq] at this
  cases s with
  | mk d => simp at h2; subst h2; rfl
/-- A Plain at block b. -/
abbrev PlainAt (b : Nat) (s : ByteArray) (w : World) : Prop := w.heap[b]? = some (.cells #[.string s] 57 (0, 0))
def plain (s : ByteArray) : Option ByteArray := if s = ByteArray.empty then none else some s
set_option maxHeartbeats 1000000 in
set_option maxRecDepth 100000 in
theorem plain_c (b : Nat) (s : ByteArray) (w : World) (h : PlainAt b s w) :
    Calls Try.prog 34 #[.pointer (some ⟨b, 0, none⟩)] w fun e w' => Hands w e w' (plain s) 0 ∧ PlainAt b ByteArray.empty w' ∧ Fr (fun k => k = b) w w' := by
  have c0 : w.cell? ⟨b, 0, none⟩ = some (.string s) := by rw [cell_heap h]; rfl
  have HH := Lib.hid h
  have hcv := fun W s => Lib.run_convert_string_bytes (P := Try.prog) W 9 31 5 s Try.underlying9 Try.underlying31 Try.underlying5
  have hfb := bytes_fr w 5 s
  have hnew := Lib.bytesWorld_at_new w 5 s
  have hb1 := hfb.heap h (fun h => h)
  have c1 : (Lib.bytesWorld w 5 s).frozen? ⟨b, 0, none⟩ = false := free_heap hb1 0
  have c2 : (Lib.bytesWorld w 5 s).cell? ⟨b, 0, none⟩ = some (.string s) := by rw [cell_heap hb1]; rfl
  have HFB := Lib.hid hfb
  have HN := Lib.hid hnew
  have HB1 := Lib.hid hb1
  clear h hfb hnew hb1
  go_enter Try.func34, Try.ntmps34
  go_wp2_with fail
  · rename_i he
    have := empty_of he
    subst this
    go_ret3
    exact ⟨rfl, HH.out, Fr.refl _ _⟩
  · rename_i he
    go_ret3
    have hne : s ≠ ByteArray.empty := fun e => by rw [e, ByteArray.toList_eq] at he; cases he
    refine ⟨?_, ?_, ?_⟩
    · rw [plain, if_neg hne]
      refine ⟨_, rfl, ?_⟩
      exact heap_far HN.out (p := ⟨b, 0, none⟩) (by have := Bs.blk_lt HH.out; show w.heap.size ≠ b; omega) _
    · have := heap_set HB1.out 0 (.string ByteArray.empty)
      rw [show (#[Value.string s]).setIfInBounds 0 (.string ByteArray.empty) = #[.string ByteArray.empty] from rfl] at this
      exact this
    · exact Fr.set (S := fun k => k = b) (HFB.out.mono (fun _ h => h.elim)) (p := ⟨b, 0, none⟩) (.inl rfl) _
/-- The number that a cell holds. -/
def numAt (w : World) (b o : Nat) : Nat := match w.cell? ⟨b, o, none⟩ with
  | some (.int _ i) => i.toNat
  | _ => 0
theorem Scr.step {B b : Nat} {ob : Option Nat} {l : List ByteArray} {j : Nat} {fail : Int} {w : World} (h : Scr B b ob l j fail w) : Scr B b ob l (j + 1) fail (w.setCell ⟨b, 1, none⟩ (.int .i64 ((j : Int) + 1))) := by
  obtain ⟨v, hB, hb, ho, rfl⟩ := h
  have hne := Bs.own_ne ho hb (show TC ≠ TX by decide)
  refine ⟨v, hB, ?_, ?_, rfl⟩
  · have := heap_set hb 1 (.int .i64 ((j : Int) + 1))
    exact this
  · exact ((Fr.refl (fun k => k = b) w).set (p := ⟨b, 1, none⟩) (.inl rfl) _).own ho (fun g hg e => hne (by rw [hg, e]))
theorem numAt_of {w : World} {b o : Nat} {t : IntKind} {i : Int} (h : w.cell? ⟨b, o, none⟩ = some (.int t i)) : numAt w b o = i.toNat := by simp [numAt, h]
theorem Scr.at {B b : Nat} {ob : Option Nat} {l : List ByteArray} {j : Nat} {fail : Int} {w : World} (h : Scr B b ob l j fail w) : numAt w b 1 = j := by
  obtain ⟨v, hB, hb, _⟩ := h
  rw [numAt_of (show w.cell? ⟨b, 1, none⟩ = some (.int .i64 j) by rw [cell_heap hb]; rfl)]
  simp
set_option maxHeartbeats 4000000 in
set_option maxRecDepth 100000 in
theorem next_c (B b : Nat) (ob : Option Nat) (l : List ByteArray) (i : Nat) (fail : Int) (w : World) (h : Scr B b ob l i fail w) (hi : i ≤ l.length) (hbig : l.length ≤ 1000000) :
    Calls Try.prog 32 #[.pointer (some ⟨b, 0, none⟩)] w fun e w' => ∃ w0 : World, w0.heap.size = w.heap.size ∧ Hands w0 e w' (nxt fail i (l.drop i)).1 (nxt fail i (l.drop i)).2.1 ∧ Scr B b ob l (nxt fail i (l.drop i)).2.2 fail w' ∧ Fr (fun k => k = b) w w' := by
  have HS := Lib.hid h
  have hcv := fun W s => Lib.run_convert_string_bytes (P := Try.prog) W 9 31 5 s Try.underlying9 Try.underlying31 Try.underlying5
  clear h
  go_enter Try.func32, Try.ntmps32
  go_wp2_with fail
  go_loopw [10] (fun v10 wr => ∃ j, j ≤ l.length ∧ nxt fail j (l.drop j) = nxt fail i (l.drop i) ∧ wr.heap.size = w.heap.size ∧ Scr B b ob l j fail wr ∧ Fr (fun k => k = b) w wr) (fun _ wr => l.length + 1 - numAt wr b 1)
  case atStart => exact ⟨i, hi, rfl, rfl, HS.out, Fr.refl _ _⟩
  case round =>
    obtain ⟨j, hj, hn, hsz, hs, hfr⟩ := hrel
    have HS2 := Lib.hid hs
    obtain ⟨v, hB, hb, ho, hob⟩ := hs
    obtain ⟨A1, c1, rfl⟩ := Bs.own_slice ho
    have k0 : wr.cell? ⟨b, 0, none⟩ = some (.slice A1 l.length c1) := by rw [cell_heap hb]; rfl
    have k1 : wr.cell? ⟨b, 1, none⟩ = some (.int .i64 j) := by rw [cell_heap hb]; rfl
    have k2 : wr.cell? ⟨b, 2, none⟩ = some (.int .i64 fail) := by rw [cell_heap hb]; rfl
    have kf : wr.frozen? ⟨b, 1, none⟩ = false := free_heap hb 1
    have HB := Lib.hid hb
    have HO := Lib.hid ho
    have HF := Lib.hid hfr
    have HN := Lib.hid hn
    clear hb ho hfr hn
    by_cases hjf : (j : Int) = fail
    · have hx : nxt fail j (l.drop j) = (none, 3, j) := by
        cases l.drop j <;> (rw [nxt, if_pos hjf])
      go_wp2_with fail
      go_region
      go_wp2_with fail
      go_region
      go_wp2_with fail
      go_ret3
      rw [← HN.out, hx]
      exact ⟨wr, hsz, rfl, HS2.out, HF.out.drew.drew⟩
    · by_cases hjl : j = l.length
      · have hx : nxt fail j (l.drop j) = (none, 0, j) := by
          rw [hjl, List.drop_length, nxt, if_neg (by rw [← hjl]; exact hjf)]
        have HJL := Lib.hid hjl
        go_wp2_with fail
        go_region
        go_wp2_with fail
        go_region
        go_wp2_with fail
        go_region
        go_wp2_with fail
        go_ret3
        rw [← HN.out, hx]
        exact ⟨wr, hsz, rfl, HS2.out, HF.out.drew.drew.drew⟩
      · have hlt : j < l.length := by omega
        have hd : l.drop j = l[j] :: l.drop (j + 1) := List.drop_eq_getElem_cons hlt
        obtain ⟨g, rfl⟩ : ∃ g, A1 = some ⟨g, 0, none⟩ := by
          rcases HO.out.2 with ⟨he, h0⟩ | ⟨g, cp, cur, he, _⟩
          · simp at h0; subst h0; simp at hlt
          · cases he; exact ⟨g, rfl⟩
        have hgb : g ≠ b := fun e => Bs.own_ne HO.out HB.out (by decide) (by rw [e]; rfl)
        have kc : wr.cell? ⟨g, j, none⟩ = some (.string l[j]) := by
          have := HO.out.cells (g := g) rfl j _ (by simp [hlt] : (l.map Value.string)[j]? = some (.string l[j]))
          rw [show (⟨g, j, none⟩ : Addr) = Addr.add ⟨g, 0, none⟩ j from (by simp [Addr.add])]
          exact this
        have HD := Lib.hid hd
        clear hd
        generalize hpc : l[j] = pc at *
        by_cases he : pc = ByteArray.empty
        · subst he
          go_wp2_with fail
          go_region
          go_wp2_with fail
          go_region
          go_wp2_with fail
          go_region
          go_wp2_with fail
          go_region
          go_wp2_with fail
          have hs2 : Scr B b ob l (j + 1) fail (wr.setCell ⟨b, 1, none⟩ (.int .i64 ((j : Int) + 1))).drew.drew.drew.drew := HS2.out.step
          refine ⟨⟨j + 1, by omega, ?_, by simp [World.setCell, World.drew, hsz], hs2, (HF.out.set (.inl rfl) _).drew.drew.drew.drew⟩, ?_⟩
          · rw [← HN.out, HD.out, nxt, if_neg hjf, if_pos rfl]
          · rw [hs2.at, HS2.out.at]
            omega
        · have hpe : pc.toList.isEmpty = false := by
            cases hq : pc.toList.isEmpty with
            | false => rfl
            | true => exact absurd (empty_of hq) he
          go_wp2_with fail
          go_region
          go_wp2_with fail
          go_region
          go_wp2_with fail
          go_region
          go_wp2_with fail
          go_region
          go_wp2_with fail
          have hx : nxt fail j (l.drop j) = (some pc, 0, j + 1) := by rw [HD.out, nxt, if_neg hjf, if_neg he]
          obtain ⟨W, hW⟩ : ∃ W, W = (wr.setCell ⟨b, 1, none⟩ (.int .i64 ((j : Int) + 1))).drew.drew.drew.drew := ⟨_, rfl⟩
          have hWs : W.heap.size = w.heap.size := by rw [hW]; simp [World.setCell, World.drew, hsz]
          have hs2 : Scr B b ob l (j + 1) fail W := by rw [hW]; exact HS2.out.step
          have hf2 : Fr (fun k => k = b) w W := by rw [hW]; exact (HF.out.set (.inl rfl) _).drew.drew.drew.drew
          have m0 : W.cell? ⟨b, 0, none⟩ = some (.slice (some ⟨g, 0, none⟩) l.length c1) := by
            rw [hW]
            exact (cell_heap (heap_set HB.out 1 (.int .i64 ((j : Int) + 1))) 0).trans rfl
          have m1 : W.cell? ⟨b, 1, none⟩ = some (.int .i64 ((j : Int) + 1)) := by
            rw [hW]
            exact (cell_heap (heap_set HB.out 1 (.int .i64 ((j : Int) + 1))) 1).trans rfl
          have mc : W.cell? ⟨g, j, none⟩ = some (.string pc) := by
            rw [hW]
            exact ((Fr.refl (fun k => k = b) wr).set (p := ⟨b, 1, none⟩) (.inl rfl) (.int .i64 ((j : Int) + 1))).cell kc hgb
          rw [← hW]
          have HS3 := Lib.hid hs2
          have HF3 := Lib.hid hf2
          have HWS := Lib.hid hWs
          clear hW hs2 hf2 hWs k0 k1 kc kf HF HS2
          go_region
          go_wp2_with fail
          go_ret3
          have hfb := bytes_fr W.drew 5 pc
          have hn3 := Lib.bytesWorld_at_new W.drew 5 pc
          have hs3 : Scr B b ob l (j + 1) fail (Lib.bytesWorld W.drew 5 pc) := Scr.fr (w := W.drew) HS3.out hfb (fun h => h) (fun _ _ h => h)
          have hf3 : Fr (fun k => k = b) w (Lib.bytesWorld W.drew 5 pc) := HF3.out.drew.trans hfb (fun _ h => h.elim)
          rw [← HN.out, hx]
          refine ⟨W.drew, HWS.out, ?_, hs3, hf3⟩
          refine ⟨grownCap W.drew pc.size 0 5, ?_, hn3⟩
          rfl
end Go.Proofs.Ytmldibphbilghaa.Src

namespace Go.Proofs.Ytmldibphbilghaa.Src
open Go.RowKit Go.Proofs.Ytmldibphbilghaa.Bs Go.Proofs.YtmldibphbilghaaW.PrintWords Go.Proofs.YtmldibphbilghaaW.PrintLast Go.Proofs.YtmldibphbilghaaW.PrintMore
set_option linter.unusedVariables false
set_option linter.unusedSimpArgs false

set_option maxHeartbeats 4000000 in
set_option maxRecDepth 100000 in
theorem size_c (B b : Nat) (ob : Option Nat) (l : List ByteArray) (i : Nat) (fail : Int) (w : World) (h : Scr B b ob l i fail w) (hbig : l.length ≤ 1000000) (hsz : size fail 0 l ≤ 1000000) :
    Calls Try.prog 35 #[.pointer (some ⟨b, 0, none⟩)] w fun e w' => e = .returned (.int .i64 (size fail 0 l)) ∧ Fr (fun _ => False) w w' := by
  obtain ⟨v, hB, hb, ho, hob⟩ := h
  obtain ⟨A1, c1, rfl⟩ := Bs.own_slice ho
  have k0 : w.cell? ⟨b, 0, none⟩ = some (.slice A1 l.length c1) := by rw [cell_heap hb]; rfl
  have HB := Lib.hid hb
  have HO := Lib.hid ho
  clear hb ho
  go_enter Try.func35, Try.ntmps35
  go_wp2_with fail
  go_loopw [3, 13] (fun v3 v13 wr => wr = w ∧ ∃ n j : Nat, j ≤ l.length ∧ v3 = .int .i64 n ∧ v13 = .int .i64 j ∧ n + size fail j (l.drop j) = size fail 0 l) (fun _ v13 _ => l.length - (intOf v13).toNat)
  case atStart => exact ⟨rfl, 0, 0, Nat.zero_le _, rfl, rfl, by simp⟩
  case round =>
    obtain ⟨rfl, n, j, hj, rfl, rfl, hn⟩ := hrel
    have HN := Lib.hid hn
    clear hn
    by_cases hlt : j < l.length
    · have hd : l.drop j = l[j] :: l.drop (j + 1) := List.drop_eq_getElem_cons hlt
      obtain ⟨g, rfl⟩ : ∃ g, A1 = some ⟨g, 0, none⟩ := by
        rcases HO.out.2 with ⟨he, h0⟩ | ⟨g, cp, cur, he, _⟩
        · simp at h0; subst h0; simp at hlt
        · cases he; exact ⟨g, rfl⟩
      have kc : wr.cell? ⟨g, j, none⟩ = some (.string l[j]) := by
        have := HO.out.cells (g := g) rfl j _ (by simp [hlt] : (l.map Value.string)[j]? = some (.string l[j]))
        rw [show (⟨g, j, none⟩ : Addr) = Addr.add ⟨g, 0, none⟩ j from (by simp [Addr.add])]
        exact this
      have k2 : wr.cell? ⟨b, 2, none⟩ = some (.int .i64 fail) := by rw [cell_heap HB.out]; rfl
      generalize hpc : l[j] = pc at *
      by_cases hjf : (j : Int) = fail
      · have hx : size fail j (l.drop j) = 0 := by rw [hd, size, if_pos hjf]
        have HX := Lib.hid hx
        clear hx hd
        subst hjf
        go_wp2_with fail
        go_ret
        rw [HX.out] at HN
        have := HN.out
        exact ⟨by rw [← this]; rfl, Fr.refl _ _⟩
      · have hx : size fail j (l.drop j) = pc.size + size fail (j + 1) (l.drop (j + 1)) := by rw [hd, size, if_neg hjf]
        have hbd : n + pc.size ≤ 1000000 := by have := HN.out; omega
        have HX := Lib.hid hx
        clear hx hd
        go_wp2_with fail
        go_roundw
        case rel => exact ⟨trivial, n + pc.size, j + 1, by omega, by go_num, by go_num, by have := HN.out; rw [HX.out] at this; omega⟩
        case measure => simp [intOf]; omega
    · have hx : size fail j (l.drop j) = 0 := by rw [List.drop_of_length_le (by omega), size]
      have HX := Lib.hid hx
      clear hx
      go_wp2_with fail
      go_ret
      rw [HX.out] at HN
      have := HN.out
      exact ⟨by rw [← this]; rfl, Fr.refl _ _⟩

abbrev PC : Nat := 43
abbrev PP : Nat := 54
theorem nilSource (xT : TypeId) (w : World) : (Instr.typeAssert .nilIface xT 59 true).run Try.prog w = .ok (.tuple #[.nilIface, .bool false]) w := by kernel_rfl
theorem nilSized (xT : TypeId) (w : World) : (Instr.typeAssert .nilIface xT 78 true).run Try.prog w = .ok (.tuple #[.nilIface, .bool false]) w := by kernel_rfl
theorem mustPlain (v : Value) (xT : TypeId) (w : World) : (Instr.typeAssert (.iface PP v) xT 59 false).run Try.prog w = .ok (.iface PP v) w := by kernel_rfl
theorem mSize (a : Addr) (w : World) (n : Nat) (hn : n = 207) : (method n PC (.pointer (some a)) "Size").run Try.prog w = .ok (35, .pointer (some a)) w := by subst hn; kernel_rfl
theorem mNextS (a : Addr) (w : World) (n : Nat) (hn : n = 207) : (method n PC (.pointer (some a)) "Next").run Try.prog w = .ok (32, .pointer (some a)) w := by subst hn; kernel_rfl
theorem mNextP (a : Addr) (w : World) (n : Nat) (hn : n = 207) : (method n PP (.pointer (some a)) "Next").run Try.prog w = .ok (34, .pointer (some a)) w := by subst hn; kernel_rfl
theorem isInt (v : Value) (xT : TypeId) (w : World) : (Instr.typeAssert (.iface 3 v) xT 59 true).run Try.prog w = .ok (.tuple #[.nilIface, .bool false]) w := run_typeAssert_lacksB Try.underlying59 (by kernel_rfl) (by kernel_rfl) v xT w
theorem isStr (v : Value) (xT : TypeId) (w : World) : (Instr.typeAssert (.iface 9 v) xT 59 true).run Try.prog w = .ok (.tuple #[.nilIface, .bool false]) w := run_typeAssert_lacksB Try.underlying59 (by kernel_rfl) (by kernel_rfl) v xT w
theorem isScr (v : Value) (xT : TypeId) (w : World) : (Instr.typeAssert (.iface PC v) xT 59 true).run Try.prog w = .ok (.tuple #[.iface PC v, .bool true]) w := run_typeAssert_hasB Try.underlying59 (by kernel_rfl) v xT w
theorem isPlain (v : Value) (xT : TypeId) (w : World) : (Instr.typeAssert (.iface PP v) xT 59 true).run Try.prog w = .ok (.tuple #[.iface PP v, .bool true]) w := run_typeAssert_hasB Try.underlying59 (by kernel_rfl) v xT w
theorem sizedStr (v : Value) (xT : TypeId) (w : World) : (Instr.typeAssert (.iface 9 v) xT 78 true).run Try.prog w = .ok (.tuple #[.nilIface, .bool false]) w := run_typeAssert_lacksB Try.underlying78 (by kernel_rfl) (by kernel_rfl) v xT w
theorem sizedScr (v : Value) (xT : TypeId) (w : World) : (Instr.typeAssert (.iface PC v) xT 78 true).run Try.prog w = .ok (.tuple #[.iface PC v, .bool true]) w := run_typeAssert_hasB Try.underlying78 (by kernel_rfl) v xT w
theorem sizedPlain (v : Value) (xT : TypeId) (w : World) : (Instr.typeAssert (.iface PP v) xT 78 true).run Try.prog w = .ok (.tuple #[.nilIface, .bool false]) w := run_typeAssert_lacksB Try.underlying78 (by kernel_rfl) (by kernel_rfl) v xT w
set_option maxHeartbeats 1000000 in
set_option maxRecDepth 100000 in
theorem all_int (v : Value) (w : World) : Calls Try.prog 33 #[.iface 3 v] w fun e w' => e = .returned (.tuple #[.string ByteArray.empty, .int .i64 11]) ∧ w' = w := by
  have h := isInt v
  go_enter Try.func33, Try.ntmps33
  go_wp2_with fail
  go_ret2
  exact ⟨rfl, rfl⟩
set_option maxHeartbeats 1000000 in
set_option maxRecDepth 100000 in
theorem all_str (v : Value) (w : World) : Calls Try.prog 33 #[.iface 9 v] w fun e w' => e = .returned (.tuple #[.string ByteArray.empty, .int .i64 11]) ∧ w' = w := by
  have h := isStr v
  go_enter Try.func33, Try.ntmps33
  go_wp2_with fail
  go_ret2
  exact ⟨rfl, rfl⟩
set_option maxHeartbeats 1000000 in
set_option maxRecDepth 100000 in
theorem all_none (w : World) : Calls Try.prog 33 #[.nilIface] w fun e w' => e = .returned (.tuple #[.string ByteArray.empty, .int .i64 11]) ∧ w' = w := by
  have h := nilSource
  go_enter Try.func33, Try.ntmps33
  go_wp2_with fail
  go_ret2
  exact ⟨rfl, rfl⟩
set_option maxHeartbeats 1000000 in
set_option maxRecDepth 100000 in
theorem sz_none (w : World) : Calls Try.prog 31 #[.nilIface] w fun e w' => e = .returned (.tuple #[.int .i64 0, .bool false]) ∧ w' = w := by
  have h := nilSized
  go_enter Try.func31, Try.ntmps31
  go_wp2_with fail
  go_ret2
  exact ⟨rfl, rfl⟩
set_option maxHeartbeats 1000000 in
set_option maxRecDepth 100000 in
theorem sz_str (v : Value) (w : World) : Calls Try.prog 31 #[.iface 9 v] w fun e w' => e = .returned (.tuple #[.int .i64 0, .bool false]) ∧ w' = w := by
  have h := sizedStr v
  go_enter Try.func31, Try.ntmps31
  go_wp2_with fail
  go_ret2
  exact ⟨rfl, rfl⟩
set_option maxHeartbeats 1000000 in
set_option maxRecDepth 100000 in
theorem sz_plain (v : Value) (w : World) : Calls Try.prog 31 #[.iface PP v] w fun e w' => e = .returned (.tuple #[.int .i64 0, .bool false]) ∧ w' = w := by
  have h := sizedPlain v
  go_enter Try.func31, Try.ntmps31
  go_wp2_with fail
  go_ret2
  exact ⟨rfl, rfl⟩
set_option maxHeartbeats 1000000 in
set_option maxRecDepth 100000 in
theorem sz_scr (B b : Nat) (ob : Option Nat) (l : List ByteArray) (i : Nat) (fail : Int) (w : World) (hs : Scr B b ob l i fail w) (hbig : l.length ≤ 1000000) (hsz : size fail 0 l ≤ 1000000) :
    Calls Try.prog 31 #[.iface PC (.pointer (some ⟨b, 0, none⟩))] w fun e w' => e = .returned (.tuple #[.int .i64 (size fail 0 l), .bool true]) ∧ Fr (fun _ => False) w w' := by
  have h := sizedScr (.pointer (some ⟨b, 0, none⟩))
  have hm := fun w => mSize ⟨b, 0, none⟩ w _ rfl
  go_enter Try.func31, Try.ntmps31
  go_wp2_with fail
  refine (size_c _ _ _ _ _ _ _ hs hbig hsz).mono ?_
  rintro e w1 ⟨rfl, hf⟩
  have HF := Lib.hid hf
  clear hf
  go_wp2_with fail
  go_ret2
  exact ⟨rfl, HF.out⟩
set_option maxHeartbeats 1000000 in
set_option maxRecDepth 100000 in
theorem must_plain (v : Value) (w : World) : Calls Try.prog 36 #[.iface PP v] w fun e w' => e = .returned (.iface PP v) ∧ w' = w := by
  have h := mustPlain v
  go_enter Try.func36, Try.ntmps36
  go_wp2_with fail
  go_ret
  exact ⟨rfl, rfl⟩
end Go.Proofs.Ytmldibphbilghaa.Src

namespace Go.Proofs.Ytmldibphbilghaa.Src
open Go.RowKit Go.Proofs.Ytmldibphbilghaa.Bs Go.Proofs.YtmldibphbilghaaW.PrintWords
set_option linter.unusedVariables false
set_option linter.unusedSimpArgs false
/-- What Next hands back: its bytes lie there, in a row that may be written. -/
theorem Hands.some {w0 w' : World} {e : Ending} {s : ByteArray} {err : Int} (h : Hands w0 e w' (some s) err) : ∃ cp, e = .returned (.tuple #[.slice (some ⟨w0.heap.size, 0, none⟩) s.size cp, .bool true, .int .i64 err]) ∧ Lib.Bytes w' w0.heap.size 0 s ∧
    ∃ cs : Array Value, w'.heap[w0.heap.size]? = some (.cells cs 5 (cs.size, cs.size + 1)) ∧ s.size ≤ cs.size := by
  obtain ⟨cp, rfl, hh⟩ := h
  refine ⟨cp, rfl, fun i hi => ?_, _, hh, by have : s.data.size = s.size := rfl; simp [Lib.bytesCells]⟩
  rw [Nat.zero_add, bytes_cell hh i hi]
  congr 3
  simp [List.getD, hi]
  rfl
theorem lit_two (w : World) (s t : ByteArray) : Kd.C Kd.string (w.alloc (.cells #[.string s, .string t] 9)) (some ⟨w.heap.size, 0, none⟩) 2 [s, t] := by
  have ho : (w.alloc (.cells #[.string s, .string t] 9)).ownsRow 0 9 1 (.slice (some ⟨w.heap.size, 0, none⟩) [s, t].length 2) [s, t].length (encs Value.string [s, t]) :=
    ⟨rfl, .inr ⟨_, _, _, rfl, Nat.zero_le _, heap_new w _, Nat.le_refl _, by unfold maxLen; omega, rfl, rfl⟩⟩
  have hR : Kd.R Kd.string 9 (w.alloc (.cells #[.string s, .string t] 9)) 0 (fun _ => True) (.slice (some ⟨w.heap.size, 0, none⟩) [s, t].length 2) [s, t] := Kd.R_of_own ho (fun _ _ => trivial)
  obtain ⟨A, c, he, _, hC⟩ := Kd.R_reads hR
  cases he
  exact hC
theorem bytes_fr2 {S : Nat → Prop} {w w' : World} {g o : Nat} {s : ByteArray} (h : Lib.Bytes w g o s) (hf : Fr S w w') (hS : ¬ S g) : Lib.Bytes w' g o s := fun i hi => hf.cell (h i hi) hS
end Go.Proofs.Ytmldibphbilghaa.Src
namespace Go.Proofs.Ytmldibphbilghaa.Pr
open Go.RowKit Go.Proofs.Ytmldibphbilghaa.Bs Go.Proofs.YtmldibphbilghaaW.PrintWords Go.Proofs.YtmldibphbilghaaW.PrintLast Go.Proofs.YtmldibphbilghaaW.PrintMore
set_option linter.unusedVariables false
set_option linter.unusedSimpArgs false
theorem ab1 : Src.nxt 1 0 ([mkB [97], mkB [98]].drop 0) = (some (mkB [97]), 0, 1) := by decide +kernel
theorem ab2 : Src.nxt 1 1 ([mkB [97], mkB [98]].drop 1) = (none, 3, 1) := by decide +kernel
def gluepotlaw04_awake.f : Option Bool := some true
set_option maxHeartbeats 2000000 in
set_option maxRecDepth 100000 in
theorem gluepotlaw04_awake.calls (r : Bool) (w : World) (h : gluepotlaw04_awake.f = some r) :
    Calls Try.prog 27 #[] w fun e w' => e = .returned (.bool r) ∧ Below w.heap.size w w' := by
  cases h
  have hcv := fun W => Lib.run_convert_whole (P := Try.prog) W 31 5 9 Try.underlying31 Try.underlying5 Try.underlying9
  go_enter Try.func27, Try.ntmps27
  go_wp2_with fail
  refine (Src.new_c _ 2 [mkB [97], mkB [98]] 1 _ (Src.lit_two w _ _) (by simp)).mono ?_
  rintro e w1 ⟨b, ob, rfl, hs, hf⟩
  have hf1 : Fr (fun _ => False) w w1 := ((Fr.refl _ w).alloc _).trans hf (fun _ h => h.elim)
  have HS := Lib.hid hs
  have HF := Lib.hid hf1
  have hwb : w.heap.size ≤ b := Nat.le_trans (by simp) hs.le
  clear hs hf hf1
  go_wp2_with fail
  refine (Src.next_c _ _ _ _ _ _ _ HS.out (by simp) (by simp)).mono ?_
  rintro e w2 ⟨w0, hw0, hh, hs2, hf2⟩
  rw [ab1] at hh hs2
  obtain ⟨cp, rfl, hby, _⟩ := hh.some
  have hsz : (mkB [97]).size = 1 := rfl
  rw [hsz]
  obtain ⟨g, hg⟩ : ∃ g, g = w0.heap.size := ⟨_, rfl⟩
  rw [← hg] at hby ⊢
  have hgb : g ≠ b := by have := HS.out.lt; omega
  have HS2 := Lib.hid hs2
  have HF2 := Lib.hid (HF.out.trans hf2 (fun k hk => .inr (by rw [hk]; exact hwb)))
  have HBY := Lib.hid hby
  clear hs2 hf2 hby hh hg hw0 HS
  go_wp2_with fail
  refine (Src.next_c _ _ _ _ _ _ _ HS2.out (by simp) (by simp)).mono ?_
  rintro e w3 ⟨w4, hw4, hh, hs3, hf3⟩
  rw [ab2] at hh
  have := hh
  unfold Src.Hands at this
  subst this
  have hby3 := Src.bytes_fr2 HBY.out hf3 hgb
  have hc3 := hcv w3 g 0 _ hby3 cp
  rw [hsz] at hc3
  have HF3 := Lib.hid (HF2.out.trans hf3 (fun k hk => .inr (by rw [hk]; exact hwb)))
  have htl : (mkB [97]).toList = [97] := by rw [ByteArray.toList_eq]; rfl
  clear hh hs3 hf3 hby3 HBY
  go_wp2_with fail
  go_ret
  exact ⟨by rfl, HF3.out.toBelow (fun _ h => h.elim) (Nat.le_refl _)⟩
def gluepotlaw04_SourceKinds.f (a0 : Int) (a1 : ByteArray) : Option Bool := some true
set_option maxHeartbeats 2000000 in
set_option maxRecDepth 100000 in
theorem gluepotlaw04_SourceKinds.calls (a0 : Int) (a1 : ByteArray) (r : Bool) (w : World) (h : gluepotlaw04_SourceKinds.f a0 a1 = some r) :
    Calls Try.prog 8 #[.int .i64 a0, .string a1] w fun e w' => e = .returned (.bool r) ∧ Below w.heap.size w w' := by
  cases h
  go_enter Try.func8, Try.ntmps8
  go_wp2_with fail
  refine (gluepotlaw04_awake.calls true _ rfl).mono ?_
  rintro e w1 ⟨rfl, hb1⟩
  have HB1 := Lib.hid hb1
  clear hb1
  go_wp2_with fail
  refine (Src.all_int _ _).mono ?_
  rintro e w2 ⟨rfl, rfl⟩
  go_wp2_with fail
  refine (Src.all_none _).mono ?_
  rintro e w2 ⟨rfl, rfl⟩
  go_wp2_with fail
  refine (Src.all_str _ _).mono ?_
  rintro e w2 ⟨rfl, rfl⟩
  go_wp2_with fail
  refine (Src.sz_str _ _).mono ?_
  rintro e w2 ⟨rfl, rfl⟩
  go_wp2_with fail
  refine (Src.sz_none _).mono ?_
  rintro e w2 ⟨rfl, rfl⟩
  go_wp2_with fail
  refine (Src.next_nil _).mono ?_
  rintro e w2 ⟨rfl, rfl⟩
  go_wp2_with fail
  refine (Src.plain_nil _).mono ?_
  rintro e w2 ⟨rfl, rfl⟩
  go_wp2_with fail
  refine (Src.size_nil _).mono ?_
  rintro e w2 ⟨rfl, rfl⟩
  go_wp2_with fail
  go_ret
  exact ⟨rfl, HB1.out⟩
end Go.Proofs.Ytmldibphbilghaa.Pr

namespace Go.Proofs.Ytmldibphbilghaa.Bld
open Go.RowKit Go.Proofs.Ytmldibphbilghaa.Bs
set_option linter.unusedVariables false
set_option linter.unusedSimpArgs false
theorem byte_cells_at {w : World} {g : Nat} {s : ByteArray} (h : Lib.Bytes w g 0 s) : ∀ j v, (cells s.data.toList)[j]? = some v → w.cell? ((⟨g, 0, none⟩ : Addr).add j) = some v := by
  intro j v hj
  have hl : s.data.toList.length = s.size := by simp
  have hlt : j < s.size := by
    have := (List.getElem?_eq_some_iff.1 hj).1
    rw [cells_length, hl] at this
    exact this
  have := h j hlt
  rw [Nat.zero_add] at this
  rw [show (⟨g, 0, none⟩ : Addr).add j = ⟨g, j, none⟩ by simp [Addr.add]; intro e; exact e.symm, this]
  simp only [cells, Lib.byteCells, List.getElem?_map] at hj
  rw [List.getElem?_eq_getElem (by rw [hl]; exact hlt)] at hj
  simp at hj
  rw [← hj]
  rfl
set_option maxHeartbeats 2000000 in
set_option maxRecDepth 100000 in
theorem write_c (B b : Nat) (ob : Option Nat) (l : List UInt8) (g0 cp : Nat) (s : ByteArray) (w : World) (h : At B b ob (cells l) w) (hs : Lib.Bytes w g0 0 s) (hne0 : g0 ≠ b) (hob0 : ob ≠ some g0) (hlen : l.length + s.size ≤ 140737488355328) (hBw : B ≤ w.heap.size) :
    Calls Try.prog 52 #[.pointer (some ⟨b, 0, none⟩), .slice (some ⟨g0, 0, none⟩) s.size cp] w fun e w' => e = .returned (.tuple #[.int .i64 s.size, .nilIface]) ∧
      ∃ ob', At B b ob' (cells (l ++ s.data.toList)) w' ∧ Moved w ob ob' ∧ Fr (Foot b ob) w w' := by
  obtain ⟨i0, hi, hz0, hz1, hz2⟩ := info_parts info8
  go_enter Try.func52, Try.ntmps52
  go_wp2_with (go_at_call 54; refine (copyCheck_c B b ob _ _ h).mono ?_)
  rintro e w1 ⟨rfl, v, hB, hbk, hown, hob, hf1⟩
  have HOB := Lib.hid hob
  clear hob
  have c0 : w1.cell? ⟨b, 0, none⟩ = some (.pointer (some ⟨b, 0, none⟩)) := by rw [cell_heap hbk]; rfl
  have c1 : w1.cell? ⟨b, 1, none⟩ = some v := by rw [cell_heap hbk]; rfl
  have hne := own_ne hown hbk (show TB ≠ T8 by decide)
  have hs1 : Lib.Bytes w1 g0 0 s := fun i hi => hf1.cell (hs i hi) (fun hx => hx.elim hne0 hob0)
  have hcl : (cells s.data.toList).length = s.size := by rw [cells_length]; simp
  go_wp2_with (at_builtin; refine wpList_append_own_at _ rfl _ _ 31 rfl B T8 i0 (.int .u8 0) 1 1 Try.underlying31 hi hz0 hz1 hz2 rfl (by decide) _ _ _ rfl hown ⟨g0, 0, none⟩ s.size cp (cells s.data.toList) rfl (by rw [hcl, Nat.mul_one]) ?c1 ?c2 ?c3 ?c4 ?c5 ?_)
  case c1 => exact byte_cells_at hs1
  case c2 =>
    intro u hu
    simp only [cells, Lib.byteCells, List.mem_map] at hu
    obtain ⟨c, _, rfl⟩ := hu
    rfl
  case c3 => unfold maxLen; rw [cells_length]; omega
  case c4 => rw [cells_length]; omega
  case c5 => have := hf1.size; omega
  intro v' w2 hown' hgrow _ hat
  have hb2 : w2.heap[b]? = some (.cells #[.pointer (some ⟨b, 0, none⟩), v] TB (0, 0)) := by
    rw [hgrow.block b (blk_lt hbk) (fun e => hne e.symm)]
    exact hbk
  have d0 : w2.cell? ⟨b, 0, none⟩ = some (.pointer (some ⟨b, 0, none⟩)) := by rw [cell_heap hb2]; rfl
  have d1 : w2.cell? ⟨b, 1, none⟩ = some v := by rw [cell_heap hb2]; rfl
  have f1 : w2.frozen? ⟨b, 1, none⟩ = false := free_heap hb2 1
  have hf2 : Fr (Foot b ob) w (w2.setCell ⟨b, 1, none⟩ v') :=
    (hf1.grown hgrow (fun k hk => .inl (.inr (by rw [← HOB.out]; exact hk)))).set (.inl (.inl rfl)) _
  have hmv : Moved w ob v'.ownBlock := by
    rcases hat with hat | hat
    · exact .inl (by rw [hat, HOB.out])
    · exact .inr ⟨_, hat, hf1.size⟩
  have hat2 : At B b v'.ownBlock (cells (l ++ s.data.toList)) (w2.setCell ⟨b, 1, none⟩ v') := by
    refine ⟨_, v', .inr rfl, hB, by simpa using heap_set hb2 1 v', ?_, rfl⟩
    have hne2 := own_ne hown' hb2 (show TB ≠ T8 by decide)
    have := ((Fr.refl (fun k => k = b) w2).set (p := ⟨b, 1, none⟩) (.inl rfl) v').own hown' (fun g hg e => hne2 (by rw [hg, e]))
    rw [cells_append, List.length_append, hcl]
    exact this
  have HF := Lib.hid hf2
  have HA := Lib.hid hat2
  obtain ⟨A2, cap, rfl⟩ : ∃ A2 cap, v' = .slice A2 ((cells l).length + s.size) cap := Bs.own_slice hown'
  clear hf2 hat2 hat hown' hs hs1
  go_wp2
  go_ret2
  exact ⟨rfl, _, HA.out, hmv, HF.out⟩
end Go.Proofs.Ytmldibphbilghaa.Bld

namespace Go.Proofs.Ytmldibphbilghaa.Src
open Go.RowKit Go.Proofs.Ytmldibphbilghaa.Bs Go.Proofs.YtmldibphbilghaaW.PrintWords
set_option linter.unusedVariables false
set_option linter.unusedSimpArgs false
/-- What Next tells, and what is told behind it. -/
def Tells (fail : Int) (i : Nat) (r : List ByteArray) : Option ByteArray × Int × Nat → Prop
  | (some s, e, j) => e = 0 ∧ i < j ∧ j ≤ i + r.length ∧ told fail i r = (s :: (told fail j (r.drop (j - i))).1, (told fail j (r.drop (j - i))).2) ∧ s ≠ ByteArray.empty
  | (none, e, j) => i ≤ j ∧ j ≤ i + r.length ∧ told fail i r = ([], e) ∧ told fail j (r.drop (j - i)) = ([], e)
theorem told_nxt (fail : Int) : ∀ (r : List ByteArray) (i : Nat), Tells fail i r (nxt fail i r)
  | [], i => by
    rw [nxt]
    split
    · rename_i h; refine ⟨Nat.le_refl _, by simp, by rw [told, if_pos h], by simp [told, h]⟩
    · rename_i h; refine ⟨Nat.le_refl _, by simp, by rw [told, if_neg h], by simp [told, h]⟩
  | s :: r, i => by
    rw [nxt]
    by_cases h : (i : Int) = fail
    · rw [if_pos h]
      refine ⟨Nat.le_refl _, by omega, by rw [told, if_pos h], ?_⟩
      rw [Nat.sub_self, List.drop_zero, told, if_pos h]
    · rw [if_neg h]
      by_cases hs : s = ByteArray.empty
      · rw [if_pos hs]
        have ih := told_nxt fail r (i + 1)
        have ht : told fail i (s :: r) = told fail (i + 1) r := by rw [told, if_neg h, if_pos hs]
        generalize nxt fail (i + 1) r = q at *
        obtain ⟨o, e, j⟩ := q
        cases o with
        | none =>
          obtain ⟨h1, h2, h3, h4⟩ := ih
          refine ⟨by omega, by simp; omega, by rw [ht]; exact h3, ?_⟩
          rw [show j - i = (j - (i + 1)) + 1 by omega, List.drop_succ_cons]
          exact h4
        | some t =>
          obtain ⟨h0, h1, h2, h3, h4⟩ := ih
          refine ⟨h0, by omega, by simp; omega, ?_, h4⟩
          rw [ht, show j - i = (j - (i + 1)) + 1 by omega, List.drop_succ_cons]
          exact h3
      · rw [if_neg hs]
        refine ⟨rfl, by omega, by simp, ?_, hs⟩
        rw [show i + 1 - i = 0 + 1 by omega, List.drop_succ_cons, List.drop_zero, told, if_neg h, if_neg hs]
theorem tells_drop {fail : Int} {i : Nat} {l : List ByteArray} (hi : i ≤ l.length) : Tells fail i (l.drop i) (nxt fail i (l.drop i)) := told_nxt fail _ i
theorem drop_back {i j : Nat} {l : List ByteArray} (h : i ≤ j) : (l.drop i).drop (j - i) = l.drop j := by rw [List.drop_drop, show i + (j - i) = j by omega]

/-- What All tells. -/
def allS (p : List ByteArray × Int) : ByteArray := if p.2 = 0 then Pr.mkB (Pure.wholeL p.1) else ByteArray.empty
set_option maxHeartbeats 4000000 in
set_option maxRecDepth 100000 in
theorem all_scr (B b : Nat) (ob : Option Nat) (l : List ByteArray) (fail : Int) (w : World) (h : Scr B b ob l 0 fail w) (hbig : l.length ≤ 1000000) (hlen : (Pure.wholeL (told fail 0 l).1).length ≤ 1000000) :
    Calls Try.prog 47 #[.iface PC (.pointer (some ⟨b, 0, none⟩))] w fun e w' => e = .returned (.tuple #[.string (allS (told fail 0 l)), .int .i64 (told fail 0 l).2]) ∧ Fr (fun k => k = b) w w' := by
  have HS := Lib.hid h
  have hm := fun w => mNextS ⟨b, 0, none⟩ w _ rfl
  clear h
  go_enter Try.func47, Try.ntmps47
  go_wp2_with fail
  have hfr0 : Fr (fun k => k = b) w (w.alloc (.cells #[.pointer none, .slice none 0 0] 85)) := (Fr.refl _ w).alloc _
  have HFR0 := Lib.hid hfr0
  have HAT0 := Lib.hid (Bld.At.fresh w w.heap.size (Nat.le_refl _))
  have HS0 := Lib.hid (HS.out.fr ((Fr.refl (fun _ => False) w).alloc (.cells #[.pointer none, .slice none 0 0] 85)) (fun h => h) (fun _ _ h => h))
  have hbw := HS.out.lt
  have hobw : ∀ g, ob = some g → g < w.heap.size := fun g hg => (HS.out.row hg).2.1
  have HOBW := Lib.hid hobw
  clear hfr0 hobw HS
  go_loopw [5] (fun v5 wr => ∃ (i : Nat) (acc : List UInt8) (obb : Option Nat), i ≤ l.length ∧ Pure.wholeL (told fail 0 l).1 = acc ++ Pure.wholeL (told fail i (l.drop i)).1 ∧ (told fail 0 l).2 = (told fail i (l.drop i)).2 ∧ Scr B b ob l i fail wr ∧ Bld.At w.heap.size w.heap.size obb (Bld.cells acc) wr ∧ Fr (fun k => k = b) w wr) (fun _ wr => l.length + 1 - numAt wr b 1)
  case atStart => exact ⟨0, [], none, Nat.zero_le _, rfl, rfl, HS0.out, HAT0.out, HFR0.out⟩
  case round =>
    obtain ⟨i, acc, obb, hi, ht1, ht2, hs, hat, hfr⟩ := hrel
    have HS := Lib.hid hs
    have HAT := Lib.hid hat
    have HF := Lib.hid hfr
    have HT1 := Lib.hid ht1
    have HT2 := Lib.hid ht2
    have htl := tells_drop (fail := fail) hi
    have hnc := next_c B b ob l i fail wr HS.out hi hbig
    generalize nxt fail i (l.drop i) = q at htl hnc
    obtain ⟨o, e1, j⟩ := q
    have HTL := Lib.hid htl
    have HNC := Lib.hid hnc
    clear hs hat hfr ht1 ht2 htl hnc HAT0 HS0 HFR0
    go_wp2_with fail
    refine HNC.out.mono ?_
    rintro e w1 ⟨w0, hw0, hh, hs1, hf1⟩
    have HS1 := Lib.hid hs1
    have HF1 := Lib.hid hf1
    have hat1 := HAT.out.fr hf1 (by omega) (fun g hg e => by have := (HAT.out.row hg).1; omega)
    have HAT1 := Lib.hid hat1
    have hfr1 := HF.out.trans hf1 (fun k hk => .inl hk)
    have HFR1 := Lib.hid hfr1
    clear hs1 hf1 hat1 hfr1 HNC
    cases o with
    | none =>
      have := hh
      unfold Hands at this
      subst this
      obtain ⟨h1, h2, h3, h4⟩ := HTL.out
      have ht0 : (told fail 0 l).2 = e1 := by rw [HT2.out, h3]
      have hta : Pure.wholeL (told fail 0 l).1 = acc := by rw [HT1.out, h3]; exact List.append_nil _
      clear hh h3 h4 hw0
      by_cases h0 : e1 = 0
      · subst h0
        have HT0 := Lib.hid ht0
        have HTA := Lib.hid hta
        clear ht0 hta
        go_wp2_with fail
        refine (Bld.string_c _ _ _ _ _ HAT1.out HFR1.out.size).mono ?_
        rintro e w2 ⟨rfl, hb2⟩
        have HB2 := Lib.hid hb2
        clear hb2
        go_wp2_with fail
        go_ret2
        refine ⟨?_, ?_⟩
        · rw [HT0.out, allS, if_pos HT0.out, HTA.out]
          rfl
        · exact HFR1.out.trans (S2 := fun k => w.heap.size ≤ k) ⟨HB2.out.os, HB2.out.tape, HB2.out.output, HB2.out.size, fun k hk hn => HB2.out.block k (by omega)⟩ (fun k hk => .inr hk)
      · have HT0 := Lib.hid ht0
        clear ht0 hta
        go_wp2_with fail
        go_ret2
        refine ⟨?_, HFR1.out⟩
        rw [HT0.out, allS, if_neg (by rw [HT0.out]; exact h0)]
        rfl
    | some s =>
      obtain ⟨cp, rfl, hby, cs, hcs, hcs2⟩ := hh.some
      obtain ⟨rfl, h1, h2, h3, h4⟩ := HTL.out
      rw [drop_back (by omega)] at h3
      have hln : (l.drop i).length = l.length - i := List.length_drop
      have ht1 : Pure.wholeL (told fail 0 l).1 = (acc ++ s.data.toList) ++ Pure.wholeL (told fail j (l.drop j)).1 := by
        rw [HT1.out, h3, List.append_assoc]
        rfl
      have ht2 : (told fail 0 l).2 = (told fail j (l.drop j)).2 := by rw [HT2.out, h3]
      have hlen2 : acc.length + s.size ≤ 1000000 := by
        have := hlen
        rw [ht1] at this
        simp only [List.length_append] at this
        have hss : s.data.toList.length = s.size := by simp
        omega
      have hg : w0.heap.size < w1.heap.size := Bs.blk_lt hcs
      have hwr : w.heap.size < wr.heap.size := HAT.out.lt
      obtain ⟨g, hgg⟩ : ∃ g, g = w0.heap.size := ⟨_, rfl⟩
      rw [← hgg] at hby hcs hg ⊢
      have hgw : w.heap.size ≤ g := by have := HF.out.size; omega
      have hgb : g ≠ w.heap.size := by omega
      have hob0 : obb ≠ some g := fun e => by have := (HAT.out.row e).2.1; omega
      have hw := Bld.write_c w.heap.size w.heap.size obb acc g cp s w1 HAT1.out hby hgb hob0 (by omega) (by have := HFR1.out.size; omega)
      have HW := Lib.hid hw
      have HX1 := Lib.hid ht1
      have HX2 := Lib.hid ht2
      clear hw ht1 ht2 hh h3 h4 hby hcs hcs2 hgg hw0
      go_wp2_with fail
      refine HW.out.mono ?_
      rintro e w2 ⟨rfl, ob2, hat2, hmv2, hf2⟩
      have HA2 := Lib.hid hat2
      have HS2 := Lib.hid (HS1.out.fr hf2 (fun hx => hx.elim (fun e => by omega) (fun e => by have := (HAT.out.row e).1; omega)) (fun g hg hx => hx.elim (fun e => by have := HOBW.out g hg; omega) (fun e => by have := (HAT.out.row e).1; have := HOBW.out g hg; omega)))
      have HF2 := Lib.hid (HFR1.out.trans hf2 (fun k hk => .inr (hk.elim (fun e => by omega) (fun e => (HAT.out.row e).1))))
      clear hat2 hf2 hmv2
      go_wp2_with fail
      refine ⟨⟨j, acc ++ s.data.toList, ob2, by omega, HX1.out, HX2.out, HS2.out, HA2.out, HF2.out⟩, ?_⟩
      rw [HS2.out.at, HS.out.at]
      omega
end Go.Proofs.Ytmldibphbilghaa.Src

namespace Go.Proofs.Ytmldibphbilghaa.Src
open Go.RowKit Go.Proofs.Ytmldibphbilghaa.Bs Go.Proofs.YtmldibphbilghaaW.PrintWords
set_option linter.unusedVariables false
set_option linter.unusedSimpArgs false
/-- How long the text in a cell is. -/
def lenAt (w : World) (b o : Nat) : Nat := match w.cell? ⟨b, o, none⟩ with
  | some (.string s) => s.size
  | _ => 0
theorem PlainAt.len {b : Nat} {s : ByteArray} {w : World} (h : PlainAt b s w) : lenAt w b 0 = s.size := by
  have c0 : w.cell? ⟨b, 0, none⟩ = some (.string s) := by rw [cell_heap h]; rfl
  simp [lenAt, c0]
theorem nil_size {s : ByteArray} (h : s ≠ ByteArray.empty) : 0 < s.size := by
  rcases Nat.eq_zero_or_pos s.size with h0 | h0
  · refine absurd ?_ h
    cases s with
    | mk d =>
      have : d = #[] := Array.eq_empty_of_size_eq_zero h0
      subst this
      rfl
  · exact h0
set_option maxHeartbeats 4000000 in
set_option maxRecDepth 100000 in
theorem all_plain (b : Nat) (s : ByteArray) (w : World) (h : PlainAt b s w) (hlen : s.size ≤ 1000000) :
    Calls Try.prog 47 #[.iface PP (.pointer (some ⟨b, 0, none⟩))] w fun e w' => e = .returned (.tuple #[.string s, .int .i64 0]) ∧ Fr (fun k => k = b) w w' := by
  have HS := Lib.hid h
  have hm := fun w => mNextP ⟨b, 0, none⟩ w _ rfl
  clear h
  go_enter Try.func47, Try.ntmps47
  go_wp2_with fail
  have hfr0 : Fr (fun k => k = b) w (w.alloc (.cells #[.pointer none, .slice none 0 0] 85)) := (Fr.refl _ w).alloc _
  have HFR0 := Lib.hid hfr0
  have HAT0 := Lib.hid (Bld.At.fresh w w.heap.size (Nat.le_refl _))
  have HS0 := Lib.hid (show PlainAt b s (w.alloc (.cells #[.pointer none, .slice none 0 0] 85)) from ((Fr.refl (fun _ => False) w).alloc (.cells #[.pointer none, .slice none 0 0] 85)).heap HS.out (fun h => h))
  have hbw := Bs.blk_lt HS.out
  clear hfr0 HS
  go_loopw [5] (fun v5 wr => ∃ (t : ByteArray) (acc : List UInt8) (obb : Option Nat), s.data.toList = acc ++ t.data.toList ∧ PlainAt b t wr ∧ Bld.At w.heap.size w.heap.size obb (Bld.cells acc) wr ∧ Fr (fun k => k = b) w wr) (fun _ wr => lenAt wr b 0)
  case atStart => exact ⟨s, [], none, rfl, HS0.out, HAT0.out, HFR0.out⟩
  case round =>
    obtain ⟨t, acc, obb, ht1, hs, hat, hfr⟩ := hrel
    have HS := Lib.hid hs
    have HAT := Lib.hid hat
    have HF := Lib.hid hfr
    have HT1 := Lib.hid ht1
    have HNC := Lib.hid (plain_c b t wr HS.out)
    clear hs hat hfr ht1 HAT0 HS0 HFR0
    go_wp2_with fail
    refine HNC.out.mono ?_
    rintro e w1 ⟨hh, hs1, hf1⟩
    have HS1 := Lib.hid hs1
    have hat1 := HAT.out.fr hf1 (by omega) (fun g hg e => by have := (HAT.out.row hg).1; omega)
    have HAT1 := Lib.hid hat1
    have hfr1 := HF.out.trans hf1 (fun k hk => .inl hk)
    have HFR1 := Lib.hid hfr1
    clear hs1 hf1 hat1 hfr1 HNC
    by_cases h0 : t = ByteArray.empty
    · subst h0
      rw [plain, if_pos rfl] at hh
      have := hh
      unfold Hands at this
      subst this
      clear hh
      go_wp2_with fail
      refine (Bld.string_c _ _ _ _ _ HAT1.out HFR1.out.size).mono ?_
      rintro e w2 ⟨rfl, hb2⟩
      have HB2 := Lib.hid hb2
      clear hb2
      go_wp2_with fail
      go_ret2
      refine ⟨?_, ?_⟩
      · have hsx : s = ⟨acc.toArray⟩ := by
          refine ByteArray.ext (Array.toList_inj.1 ?_)
          rw [HT1.out, show ByteArray.empty.data.toList = [] from rfl, List.append_nil]
        rw [hsx]
        rfl
      · exact HFR1.out.trans (S2 := fun k => w.heap.size ≤ k) ⟨HB2.out.os, HB2.out.tape, HB2.out.output, HB2.out.size, fun k hk hn => HB2.out.block k (by omega)⟩ (fun k hk => .inr hk)
    · rw [plain, if_neg h0] at hh
      obtain ⟨cp, rfl, hby, cs, hcs, hcs2⟩ := hh.some
      have hlen2 : acc.length + t.size ≤ 1000000 := by
        have := congrArg List.length HT1.out
        simp only [List.length_append] at this
        have hss : s.data.toList.length = s.size := by simp
        have hst : t.data.toList.length = t.size := by simp
        omega
      have hg : wr.heap.size < w1.heap.size := Bs.blk_lt hcs
      have hwr : w.heap.size < wr.heap.size := HAT.out.lt
      obtain ⟨g, hgg⟩ : ∃ g, g = wr.heap.size := ⟨_, rfl⟩
      rw [← hgg] at hby hcs hg ⊢
      have hgw : w.heap.size ≤ g := by omega
      have hgb : g ≠ w.heap.size := by omega
      have hob0 : obb ≠ some g := fun e => by have := (HAT.out.row e).2.1; omega
      have hw := Bld.write_c w.heap.size w.heap.size obb acc g cp t w1 HAT1.out hby hgb hob0 (by omega) (by have := HFR1.out.size; omega)
      have HW := Lib.hid hw
      clear hw hh hby hcs hcs2 hgg
      go_wp2_with fail
      refine HW.out.mono ?_
      rintro e w2 ⟨rfl, ob2, hat2, hmv2, hf2⟩
      have HA2 := Lib.hid hat2
      have HS2 := Lib.hid (show PlainAt b ByteArray.empty w2 from hf2.heap HS1.out (fun hx => hx.elim (fun e => by omega) (fun e => by have := (HAT.out.row e).1; omega)))
      have HF2 := Lib.hid (HFR1.out.trans hf2 (fun k hk => .inr (hk.elim (fun e => by omega) (fun e => (HAT.out.row e).1))))
      clear hat2 hf2 hmv2
      go_wp2_with fail
      refine ⟨⟨ByteArray.empty, acc ++ t.data.toList, ob2, ?_, HS2.out, HA2.out, HF2.out⟩, ?_⟩
      · rw [HT1.out, show ByteArray.empty.data.toList = [] from rfl, List.append_nil]
      · rw [HS2.out.len, HS.out.len]
        exact nil_size h0
set_option maxHeartbeats 1000000 in
set_option maxRecDepth 100000 in
theorem All_plain (b : Nat) (s : ByteArray) (w : World) (hs : PlainAt b s w) (hlen : s.size ≤ 1000000) :
    Calls Try.prog 33 #[.iface PP (.pointer (some ⟨b, 0, none⟩))] w fun e w' => e = .returned (.tuple #[.string s, .int .i64 0]) ∧ Fr (fun k => k = b) w w' := by
  have h := isPlain (.pointer (some ⟨b, 0, none⟩))
  have HA := Lib.hid (all_plain b s w hs hlen)
  clear hs
  go_enter Try.func33, Try.ntmps33
  go_wp2_with fail
  refine HA.out.mono ?_
  rintro e w1 ⟨rfl, hf⟩
  have HF := Lib.hid hf
  clear hf
  go_wp2_with fail
  go_ret2
  exact ⟨rfl, HF.out⟩
set_option maxHeartbeats 1000000 in
set_option maxRecDepth 100000 in
theorem All_scr (B b : Nat) (ob : Option Nat) (l : List ByteArray) (fail : Int) (w : World) (hs : Scr B b ob l 0 fail w) (hbig : l.length ≤ 1000000) (hlen : (Pure.wholeL (told fail 0 l).1).length ≤ 1000000) (S : ByteArray) (E : Int) (hS : S = allS (told fail 0 l)) (hE : E = (told fail 0 l).2) :
    Calls Try.prog 33 #[.iface PC (.pointer (some ⟨b, 0, none⟩))] w fun e w' => e = .returned (.tuple #[.string S, .int .i64 E]) ∧ Fr (fun k => k = b) w w' := by
  have h := isScr (.pointer (some ⟨b, 0, none⟩))
  have hA := all_scr B b ob l fail w hs hbig hlen
  rw [← hS, ← hE] at hA
  have HA := Lib.hid hA
  clear hs hA hlen hS hE
  go_enter Try.func33, Try.ntmps33
  go_wp2_with fail
  refine HA.out.mono ?_
  rintro e w1 ⟨rfl, hf⟩
  have HF := Lib.hid hf
  clear hf
  go_wp2_with fail
  go_ret2
  exact ⟨rfl, HF.out⟩
end Go.Proofs.Ytmldibphbilghaa.Src
namespace Go.Proofs.Ytmldibphbilghaa.Pr
open Go.RowKit Go.Proofs.Ytmldibphbilghaa.Bs Go.Proofs.YtmldibphbilghaaW.PrintWords Go.Proofs.YtmldibphbilghaaW.PrintLast Go.Proofs.YtmldibphbilghaaW.PrintMore
set_option linter.unusedVariables false
set_option linter.unusedSimpArgs false
def gluepotlaw04_SourcePlain.f (a0 : ByteArray) : Option Bool := some true
set_option maxHeartbeats 2000000 in
set_option maxRecDepth 100000 in
theorem gluepotlaw04_SourcePlain.calls (a0 : ByteArray) (r : Bool) (w : World) (h : gluepotlaw04_SourcePlain.f a0 = some r) :
    Calls Try.prog 9 #[.string a0] w fun e w' => e = .returned (.bool r) ∧ Below w.heap.size w w' := by
  cases h
  go_enter Try.func9, Try.ntmps9
  go_wp2_with fail
  refine (gluepotlaw04_awake.calls true _ rfl).mono ?_
  rintro e w1 ⟨rfl, hb1⟩
  have HB1 := Lib.hid hb1
  clear hb1
  by_cases hbig : 3000 < a0.size
  · go_wp2_with fail
    go_ret
    exact ⟨rfl, HB1.out⟩
  · obtain ⟨b, hb⟩ : ∃ b, b = w1.heap.size := ⟨_, rfl⟩
    have hp1 : Src.PlainAt b a0 (w1.alloc (.cells #[.string a0] 57)) := by rw [hb]; exact heap_new _ _
    have hf1 : Fr (fun _ => False) w (w1.alloc (.cells #[.string a0] 57)) := (Fr.ofBelow HB1.out).alloc _
    have hwb : w.heap.size ≤ b := by rw [hb]; exact HB1.out.size
    go_wp2_with fail
    obtain ⟨W, hW⟩ : ∃ W, W = w1.alloc (.cells #[.string a0] 57) := ⟨_, rfl⟩
    rw [← hW] at hp1 hf1
    have HP1 := Lib.hid hp1
    have HF1 := Lib.hid hf1
    rw [← hW, ← hb]
    clear hp1 hf1 hb hW HB1
    refine (Src.sz_plain _ _).mono ?_
    rintro e w2 ⟨rfl, rfl⟩
    go_wp2_with fail
    refine (Src.must_plain _ _).mono ?_
    rintro e w2 ⟨rfl, rfl⟩
    have hm := fun w => Src.mNextP ⟨b, 0, none⟩ w _ rfl
    have hcn := fun W c => Lib.run_convert_nil_bytes (P := Try.prog) W 31 9 5 c Try.underlying31 Try.underlying5 Try.underlying9
    have hcv := fun W => Lib.run_convert_whole (P := Try.prog) W 31 5 9 Try.underlying31 Try.underlying5 Try.underlying9
    go_wp2_with fail
    refine (Src.plain_c b a0 _ HP1.out).mono ?_
    rintro e w3 ⟨hh, hp3, hf3⟩
    have c0 : w3.cell? ⟨b, 0, none⟩ = some (.string ByteArray.empty) := by rw [cell_heap hp3]; rfl
    have HP3 := Lib.hid hp3
    have HF3 := Lib.hid (HF1.out.trans hf3 (fun k hk => .inr (by rw [hk]; exact hwb)))
    have hA : ∀ (b2 : Nat) (wx : World), Src.PlainAt b2 a0 wx → Calls Try.prog 33 #[.iface Src.PP (.pointer (some ⟨b2, 0, none⟩))] wx fun e w' => e = .returned (.tuple #[.string a0, .int .i64 0]) ∧ Fr (fun k => k = b2) wx w' := fun b2 wx hp => Src.All_plain b2 a0 wx hp (by omega)
    have HALL := Lib.hid hA
    clear hp3 hf3 HP1 HF1 hA
    by_cases h0 : a0 = ByteArray.empty
    · subst h0
      rw [Src.plain, if_pos rfl] at hh
      have := hh
      unfold Src.Hands at this
      subst this
      clear hh
      go_wp2_with fail
      refine (Src.plain_c b _ _ HP3.out).mono ?_
      rintro e w4 ⟨hh, hp4, hf4⟩
      rw [Src.plain, if_pos rfl] at hh
      have := hh
      unfold Src.Hands at this
      subst this
      have HF4 := Lib.hid (HF3.out.trans hf4 (fun k hk => .inr (by rw [hk]; exact hwb)))
      clear hh hp4 hf4
      go_wp2_with fail
      refine (HALL.out _ _ (heap_new _ _)).mono ?_
      rintro e w5 ⟨rfl, hf5⟩
      have HF5 := Lib.hid ((HF4.out.alloc _).trans hf5 (fun k hk => .inr (by rw [hk]; exact HF4.out.size)))
      clear hf5
      go_wp2_with fail
      go_ret
      exact ⟨by rfl, HF5.out.toBelow (fun _ h => h.elim) (Nat.le_refl _)⟩
    · rw [Src.plain, if_neg h0] at hh
      obtain ⟨cp, rfl, hby, _⟩ := hh.some
      have hc3 := hcv _ _ _ _ hby cp
      have hpe : a0.toList.isEmpty = false := by
        cases hq : a0.toList.isEmpty with
        | false => rfl
        | true => exact absurd (Src.empty_of hq) h0
      clear hh
      have hee : ByteArray.empty.toList.isEmpty = true := by rw [ByteArray.toList_eq]; rfl
      go_wp2_with fail
      refine (Src.plain_c b _ _ HP3.out).mono ?_
      rintro e w4 ⟨hh, hp4, hf4⟩
      rw [Src.plain, if_pos rfl] at hh
      have := hh
      unfold Src.Hands at this
      subst this
      have HF4 := Lib.hid (HF3.out.trans hf4 (fun k hk => .inr (by rw [hk]; exact hwb)))
      clear hh hp4 hf4
      go_wp2_with fail
      refine (HALL.out _ _ (heap_new _ _)).mono ?_
      rintro e w5 ⟨rfl, hf5⟩
      have HF5 := Lib.hid ((HF4.out.alloc _).trans hf5 (fun k hk => .inr (by rw [hk]; exact HF4.out.size)))
      clear hf5
      go_wp2_with fail
      go_ret
      exact ⟨by rfl, HF5.out.toBelow (fun _ h => h.elim) (Nat.le_refl _)⟩
end Go.Proofs.Ytmldibphbilghaa.Pr

namespace Go.Proofs.Ytmldibphbilghaa.Pure
open Go.RowKit Go.Proofs.YtmldibphbilghaaW.PrintWords Go.Proofs.Ytmldibphbilghaa.Src Go.Proofs.Ytmldibphbilghaa.Pr
set_option linter.unusedVariables false
set_option linter.unusedSimpArgs false
theorem size_told (fail : Int) : ∀ (l : List ByteArray) (i : Nat), Src.size fail i l = (wholeL (told fail i l).1).length
  | [], i => by simp [Src.size, told, wholeL]
  | s :: r, i => by
    rw [Src.size, told]
    split
    · simp [wholeL]
    · rw [size_told fail r (i + 1)]
      split
      · rename_i h; subst h; simp
      · simp [wholeL]
theorem told_err (fail : Int) : ∀ (l : List ByteArray) (i : Nat), (told fail i l).2 = 0 ∨ (told fail i l).2 = 3
  | [], i => by
    rw [told]
    split
    · exact .inr rfl
    · exact .inl rfl
  | s :: r, i => by
    rw [told]
    split
    · exact .inr rfl
    · split
      · exact told_err fail r (i + 1)
      · exact told_err fail r (i + 1)
theorem told_len (fail : Int) : ∀ (l : List ByteArray) (i : Nat), (wholeL (told fail i l).1).length ≤ (wholeL l).length ∧ (told fail i l).1.length ≤ l.length
  | [], i => by simp [told, wholeL]
  | s :: r, i => by
    obtain ⟨h1, h2⟩ := told_len fail r (i + 1)
    rw [told]
    split
    · simp [wholeL]
    · split
      · have : (wholeL (s :: r)).length = s.data.toList.length + (wholeL r).length := by simp [wholeL]
        exact ⟨by omega, by simp; omega⟩
      · constructor
        · simp only [wholeL, List.flatMap_cons, List.length_append] at h1 ⊢
          omega
        · simp; omega
theorem told_loop (fail : Int) (l : List ByteArray) (hl : l.length ≤ 1000000) : ∀ (m i k : Nat) (out : List ByteArray), l.length - i = m → i ≤ l.length → m + 1 ≤ k → out.length ≤ i →
    gluepotref04_Told.l0 k l fail out (i : Int) = some (out ++ (told fail i (l.drop i)).1, (told fail i (l.drop i)).2)
  | 0, i, k + 1, out, hm, hi, hk, ho => by
    rw [gluepotref04_Told.l0, if_neg (by omega), List.drop_of_length_le (by omega), told, List.append_nil]
    by_cases h : (i : Int) = fail
    · rw [if_pos (by omega), if_pos h]
    · rw [if_neg (by omega), if_neg h]
  | m + 1, i, k + 1, out, hm, hi, hk, ho => by
    have hlt : i < l.length := by omega
    have hd : l.drop i = l[i] :: l.drop (i + 1) := List.drop_eq_getElem_cons hlt
    have hw : wrap64 ((i : Int) + 1) = ((i + 1 : Nat) : Int) := by unfold wrap64; omega
    rw [gluepotref04_Told.l0, if_pos (by omega), hd, told]
    by_cases h : (i : Int) = fail
    · rw [if_pos h, if_pos h, List.append_nil]
    · rw [if_neg h, if_neg h, if_pos (by omega), rd_get l i hlt]
      by_cases he : l[i] = ByteArray.empty
      · rw [if_pos (by rw [he, ByteArray.toList_eq]; rfl), if_pos he, hw]
        exact told_loop fail l hl m (i + 1) k out (by omega) (by omega) (by omega) (by omega)
      · rw [if_neg (fun hx => he (empty_of (by rw [hx]; rfl))), if_neg he, if_pos (by omega), hw, told_loop fail l hl m (i + 1) k (out ++ [l[i]]) (by omega) (by omega) (by omega) (by simp; omega)]
        simp
theorem reftold_f {k : Nat} (l : List ByteArray) (fail : Int) (hl : l.length ≤ 1000000) (hk : l.length + 1 ≤ k) : gluepotref04_Told.f k l fail = some ((told fail 0 l).1, (told fail 0 l).2) := by
  have := told_loop fail l hl l.length 0 k [] (by omega) (by omega) (by omega) (by simp)
  rw [List.nil_append, List.drop_zero] at this
  exact this
theorem size_at : ∀ (l : List ByteArray) (i : Nat) (h : i < l.length), l[i].size ≤ (wholeL l).length
  | [], i, h => by cases h
  | s :: r, 0, h => by
    have : s.data.toList.length = s.size := size_list s
    simp only [wholeL, List.flatMap_cons, List.length_append, List.getElem_cons_zero]
    omega
  | s :: r, i + 1, h => by
    have := size_at r i (by simpa using h)
    simp only [wholeL, List.flatMap_cons, List.length_append, List.getElem_cons_succ] at this ⊢
    omega
theorem great4_eq : ∀ (k : Nat) (L : List ByteArray) (x i : Int), gluepotlaw04_great.l0 k L x i = gluepotlaw03_great.l0 k L x i
  | 0, L, x, i => by rw [gluepotlaw04_great.l0, gluepotlaw03_great.l0]
  | k + 1, L, x, i => by rw [gluepotlaw04_great.l0, gluepotlaw03_great.l0, great4_eq k]
theorem great4_f (L : List ByteArray) (hL : L.length ≤ 9223372036854775807) : ∃ k b, gluepotlaw04_great.f k L = some b ∧ (b = false → L.length ≤ 100 ∧ (wholeL L).length ≤ 3000) := by
  obtain ⟨k, b, h1, h2⟩ := great_f L hL
  exact ⟨k, b, by rw [gluepotlaw04_great.f, great4_eq]; exact h1, h2⟩
end Go.Proofs.Ytmldibphbilghaa.Pure
