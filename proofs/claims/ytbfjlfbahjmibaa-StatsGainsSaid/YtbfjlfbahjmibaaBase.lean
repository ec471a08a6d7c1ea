/- Plain lemmas on worlds: what a call may have written (Fr S: no block but those of S, and new ones), and rows that the call owns. -/
import Derived.WalkKit
import Derived.KernelRfl
import Derived.Lib.Hide
import Derived.Lib.Builder
import Derived.Lib.ConvBytes
import Derived.Maps.AppendAt
import Derived.Deep.AppendLies
import Derived.Deep.Draws
import Derived.WalkLawsBesides
import Derived.WalkSpells
namespace Go.Proofs.Ytbfjlfbahjmibaa.Bs
open Go.RowKit
set_option linter.unusedVariables false

/-- No block of w but those of S has turned; new ones may have come. -/
structure Fr (S : Nat → Prop) (w w' : World) : Prop where
  os : w'.os = w.os
  tape : w'.tape = w.tape
  output : w'.output = w.output
  size : w.heap.size ≤ w'.heap.size
  blk : ∀ k, k < w.heap.size → ¬ S k → w'.heap[k]? = w.heap[k]?

section
variable {S S2 : Nat → Prop} {a w w' w2 : World}
theorem blk_lt {k : Nat} {o : Obj} (h : w.heap[k]? = some o) : k < w.heap.size := (Array.getElem?_eq_some_iff.1 h).1
theorem Fr.refl (S : Nat → Prop) (w : World) : Fr S w w := ⟨rfl, rfl, rfl, Nat.le_refl _, fun _ _ _ => rfl⟩
theorem Fr.trans (h : Fr S a w) (k : Fr S2 w w') (hs : ∀ i, S2 i → S i ∨ a.heap.size ≤ i) : Fr S a w' :=
  ⟨k.os.trans h.os, k.tape.trans h.tape, k.output.trans h.output, Nat.le_trans h.size k.size,
    fun i hi hn => (k.blk i (Nat.lt_of_lt_of_le hi h.size) (fun h2 => (hs i h2).elim hn (fun h3 => by omega))).trans (h.blk i hi hn)⟩
theorem Fr.mono (h : Fr S w w') (hs : ∀ i, S i → S2 i) : Fr S2 w w' := ⟨h.os, h.tape, h.output, h.size, fun i hi hn => h.blk i hi (fun h2 => hn (hs i h2))⟩
theorem Fr.ofBelow (h : Below w.heap.size w w') : Fr S w w' := ⟨h.os, h.tape, h.output, h.size, fun i hi _ => h.block i hi⟩
theorem Fr.below (h : Fr S a w) (k : Below w.heap.size w w') : Fr S a w' := h.trans (S2 := fun _ => False) (Fr.ofBelow k) (fun _ hf => hf.elim)
theorem Fr.toBelow (h : Fr S w w') {B : Nat} (hs : ∀ i, S i → B ≤ i) (hB : B ≤ w.heap.size) : Below B w w' :=
  ⟨h.os, h.tape, h.output, h.size, fun i hi => h.blk i (by omega) (fun h2 => by have := hs i h2; omega)⟩
theorem Fr.drew (h : Fr S a w) : Fr S a w.drew := ⟨h.os, h.tape, h.output, h.size, h.blk⟩
theorem Fr.drewN (h : Fr S a w) (n : Nat) : Fr S a (w.drewN n) := ⟨h.os, h.tape, h.output, h.size, h.blk⟩
theorem Fr.alloc (h : Fr S a w) (o : Obj) : Fr S a (w.alloc o) := h.below ((Below.refl _ _).alloc (Nat.le_refl _) o)
theorem Fr.set (h : Fr S a w) {p : Addr} (hp : S p.block ∨ a.heap.size ≤ p.block) (u : Value) : Fr S a (w.setCell p u) :=
  h.trans (S2 := fun k => k = p.block) ⟨rfl, rfl, rfl, by simp [World.setCell], fun k _ hn => Below.heap_setCell w p u k hn⟩ (fun k hk => by rw [hk]; exact hp)
theorem Fr.grown (h : Fr S a w) {row : Option Nat} (hg : w.grownBy w' row) (hr : ∀ k, row = some k → S k ∨ a.heap.size ≤ k) : Fr S a w' :=
  h.trans (S2 := fun k => row = some k) ⟨hg.os, hg.tape, hg.output, hg.size, fun k hk hn => hg.block k hk (fun e => hn e.symm)⟩ hr
theorem Fr.heap (h : Fr S w w') {k : Nat} {o : Obj} (hk : w.heap[k]? = some o) (hn : ¬ S k) : w'.heap[k]? = some o := (h.blk k (blk_lt hk) hn).trans hk
theorem Fr.cell (h : Fr S w w') {p : Addr} {v : Value} (hc : w.cell? p = some v) (hn : ¬ S p.block) : w'.cell? p = some v :=
  (World.cell?_of_block (h.blk p.block (World.block_lt_of_cell? w p hc) hn)).trans hc
theorem Fr.own (h : Fr S w w') {B : Nat} {e : TypeId} {sz n : Nat} {v : Value} {xs : List Value} (ho : w.ownsRow B e sz v n xs) (hn : ∀ g, v.ownBlock = some g → ¬ S g) : w'.ownsRow B e sz v n xs := by
  obtain ⟨h1, h2⟩ := ho
  refine ⟨h1, ?_⟩
  rcases h2 with h2 | ⟨g, cap, cur, rfl, hg, hh, r⟩
  · exact .inl h2
  · exact .inr ⟨g, cap, cur, rfl, hg, h.heap hh (hn g rfl), r⟩
theorem own_lt {B : Nat} {e : TypeId} {sz n : Nat} {v : Value} {xs : List Value} (ho : w.ownsRow B e sz v n xs) {g : Nat} (hg : v.ownBlock = some g) : B ≤ g ∧ g < w.heap.size := ho.lt g hg
theorem own_ne {B : Nat} {e t : TypeId} {sz n : Nat} {v : Value} {xs : List Value} {g : Nat} {cs : Array Value} {fr : Nat × Nat} (ho : w.ownsRow B e sz v n xs) (hb : w.heap[g]? = some (.cells cs t fr)) (hne : t ≠ e) : v.ownBlock ≠ some g := by
  rcases ho.2 with ⟨rfl, _⟩ | ⟨g', cap, cur, rfl, _, hh, _⟩
  · simp [Value.ownBlock]
  · intro he
    have : g' = g := by simpa [Value.ownBlock] using he
    subst this
    rw [hh] at hb
    injection hb with hb
    injection hb with _ ht
    exact hne ht.symm
theorem heap_new (w : World) (o : Obj) : (w.alloc o).heap[w.heap.size]? = some o := heap_alloc_new w o
theorem heap_old {k : Nat} {o : Obj} (h : w.heap[k]? = some o) (o' : Obj) : (w.alloc o').heap[k]? = some o := (Below.heap_alloc w o' k (blk_lt h)).trans h
theorem heap_set {g : Nat} {cs : Array Value} {t : TypeId} {fr : Nat × Nat} (h : w.heap[g]? = some (.cells cs t fr)) (i : Nat) (u : Value) : (w.setCell ⟨g, i, none⟩ u).heap[g]? = some (.cells (cs.setIfInBounds i u) t fr) := by
  simp [World.setCell, Array.getElem?_modify, h]
theorem heap_far {g : Nat} {o : Obj} (h : w.heap[g]? = some o) {p : Addr} (hp : g ≠ p.block) (u : Value) : (w.setCell p u).heap[g]? = some o := (Below.heap_setCell w p u g hp).trans h
theorem cell_heap {g : Nat} {cs : Array Value} {t : TypeId} {fr : Nat × Nat} (h : w.heap[g]? = some (.cells cs t fr)) (i : Nat) : w.cell? ⟨g, i, none⟩ = cs[i]? := Lib.cell_of_heap h i
theorem free_heap {g : Nat} {cs : Array Value} {t : TypeId} (h : w.heap[g]? = some (.cells cs t (0, 0))) (i : Nat) : w.frozen? ⟨g, i, none⟩ = false := by simp [World.frozen?, h]
/-- One cell, just laid. -/
theorem cell_one (w : World) (u : Value) (T : TypeId) : ∀ j v, [u][j]? = some v → (w.alloc (.cells #[u] T)).cell? ((⟨w.heap.size, 0, none⟩ : Addr).add j) = some v := by
  intro j v hj
  match j, hj with
  | 0, hj => simp at hj; subst hj; simp [Addr.add]
theorem own_slice {B : Nat} {e : TypeId} {sz n : Nat} {v : Value} {xs : List Value} (ho : w.ownsRow B e sz v n xs) : ∃ A c, v = .slice A n c := by
  rcases ho.2 with ⟨rfl, rfl⟩ | ⟨g, cap, cur, rfl, _⟩
  · exact ⟨none, 0, rfl⟩
  · exact ⟨_, cap, rfl⟩
/-- What '[]byte(s)' lays: the world behind it. -/
theorem bytes_fr (w : World) (e : TypeId) (s : ByteArray) : Fr (fun _ => False) w (Lib.bytesWorld w e s) :=
  ⟨rfl, rfl, rfl, by rw [Lib.bytesWorld_size]; omega, fun k hk _ => Lib.bytesWorld_at_old w e s k hk⟩
theorem bytes_cell {w wr : World} {e : TypeId} {s : ByteArray} {g : Nat} {x : Nat × Nat} (h : wr.heap[g]? = some (.cells (Lib.bytesCells w e s) e x)) (j : Nat) (hj : j < s.size) : wr.cell? ⟨g, j, none⟩ = some (.int .u8 (s.data.toList.getD j 0).toNat) := by
  rw [cell_heap h]
  simp [Lib.bytesCells, Array.getElem?_append, List.getD, hj]
end
end Go.Proofs.Ytbfjlfbahjmibaa.Bs
