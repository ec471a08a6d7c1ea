/- Base, HTexts in one text (wip/mtext.py). -/
import Derived.WalkKit
import Derived.KernelRfl
import Derived.Lib.Hide
import Derived.Lib.Builder
import Derived.Lib.ConvBytes
import Derived.Maps.AppendAt
import Derived.Deep.AppendLies
import Derived.Deep.Draws
import Derived.WalkLawsBesides
import Derived.WalkSpells
import Derived.Test.YtbfjlfbahjmibaaPr0
import Derived.Lib.SlBytesRow
namespace Go.Proofs.Ytbfjlfbahjmibaa.Bs
open Go.RowKit
set_option linter.unusedVariables false

/-- No block of w but those of S has turned; new ones may have come. -/
structure Fr (S : Nat → Prop) (w w' : World) : Prop where
  os : w'.os = w.os
  tape : w'.tape = w.tape
  output : w'.output = w.output
  size : w.heap.size ≤ w'.heap.size
  blk : ∀ k, k < w.heap.size → ¬ S k → w'.heap[k]? = w.heap[k]?

section
variable {S S2 : Nat → Prop} {a w w' w2 : World}
theorem blk_lt {k : Nat} {o : Obj} (h : w.heap[k]? = some o) : k < w.heap.size := (Array.getElem?_eq_some_iff.1 h).1
theorem Fr.refl (S : Nat → Prop) (w : World) : Fr S w w := ⟨rfl, rfl, rfl, Nat.le_refl _, fun _ _ _ => rfl⟩
theorem Fr.trans (h : Fr S a w) (k : Fr S2 w w') (hs : ∀ i, S2 i → S i ∨ a.heap.size ≤ i) : Fr S a w' :=
  ⟨k.os.trans h.os, k.tape.trans h.tape, k.output.trans h.output, Nat.le_trans h.size k.size,
    fun i hi hn => (k.blk i (Nat.lt_of_lt_of_le hi h.size) (fun h2 => (hs i h2).elim hn (fun h3 => by omega))).trans (h.blk i hi hn)⟩
theorem Fr.mono (h : Fr S w w') (hs : ∀ i, S i → S2 i) : Fr S2 w w' := ⟨h.os, h.tape, h.output, h.size, fun i hi hn => h.blk i hi (fun h2 => hn (hs i h2))⟩
theorem Fr.ofBelow (h : Below w.heap.size w w') : Fr S w w' := ⟨h.os, h.tape, h.output, h.size, fun i hi _ => h.block i hi⟩
theorem Fr.below (h : Fr S a w) (k : Below w.heap.size w w') : Fr S a w' := h.trans (S2 := fun _ => False) (Fr.ofBelow k) (fun _ hf => hf.elim)
theorem Fr.toBelow (h : Fr S w w') {B : Nat} (hs : ∀ i, S i → B ≤ i) (hB : B ≤ w.heap.size) : Below B w w' :=
  ⟨h.os, h.tape, h.output, h.size, fun i hi => h.blk i (by omega) (fun h2 => by have := hs i h2; omega)⟩
theorem Fr.drew (h : Fr S a w) : Fr S a w.drew := ⟨h.os, h.tape, h.output, h.size, h.blk⟩
theorem Fr.drewN (h : Fr S a w) (n : Nat) : Fr S a (w.drewN n) := ⟨h.os, h.tape, h.output, h.size, h.blk⟩
theorem Fr.alloc (h : Fr S a w) (o : Obj) : Fr S a (w.alloc o) := h.below ((Below.refl _ _).alloc (Nat.le_refl _) o)
theorem Fr.set (h : Fr S a w) {p : Addr} (hp : S p.block ∨ a.heap.size ≤ p.block) (u : Value) : Fr S a (w.setCell p u) :=
  h.trans (S2 := fun k => k = p.block) ⟨rfl, rfl, rfl, by simp [World.setCell], fun k _ hn => Below.heap_setCell w p u k hn⟩ (fun k hk => by rw [hk]; exact hp)
theorem Fr.grown (h : Fr S a w) {row : Option Nat} (hg : w.grownBy w' row) (hr : ∀ k, row = some k → S k ∨ a.heap.size ≤ k) : Fr S a w' :=
  h.trans (S2 := fun k => row = some k) ⟨hg.os, hg.tape, hg.output, hg.size, fun k hk hn => hg.block k hk (fun e => hn e.symm)⟩ hr
theorem Fr.heap (h : Fr S w w') {k : Nat} {o : Obj} (hk : w.heap[k]? = some o) (hn : ¬ S k) : w'.heap[k]? = some o := (h.blk k (blk_lt hk) hn).trans hk
theorem Fr.cell (h : Fr S w w') {p : Addr} {v : Value} (hc : w.cell? p = some v) (hn : ¬ S p.block) : w'.cell? p = some v :=
  (World.cell?_of_block (h.blk p.block (World.block_lt_of_cell? w p hc) hn)).trans hc
theorem Fr.own (h : Fr S w w') {B : Nat} {e : TypeId} {sz n : Nat} {v : Value} {xs : List Value} (ho : w.ownsRow B e sz v n xs) (hn : ∀ g, v.ownBlock = some g → ¬ S g) : w'.ownsRow B e sz v n xs := by
  obtain ⟨h1, h2⟩ := ho
  refine ⟨h1, ?_⟩
  rcases h2 with h2 | ⟨g, cap, cur, rfl, hg, hh, r⟩
  · exact .inl h2
  · exact .inr ⟨g, cap, cur, rfl, hg, h.heap hh (hn g rfl), r⟩
theorem own_lt {B : Nat} {e : TypeId} {sz n : Nat} {v : Value} {xs : List Value} (ho : w.ownsRow B e sz v n xs) {g : Nat} (hg : v.ownBlock = some g) : B ≤ g ∧ g < w.heap.size := ho.lt g hg
theorem own_ne {B : Nat} {e t : TypeId} {sz n : Nat} {v : Value} {xs : List Value} {g : Nat} {cs : Array Value} {fr : Nat × Nat} (ho : w.ownsRow B e sz v n xs) (hb : w.heap[g]? = some (.cells cs t fr)) (hne : t ≠ e) : v.ownBlock ≠ some g := by
  rcases ho.2 with ⟨rfl, _⟩ | ⟨g', cap, cur, rfl, _, hh, _⟩
  · simp [Value.ownBlock]
  · intro he
    have : g' = g := by simpa [Value.ownBlock] using he
    subst this
    rw [hh] at hb
    injection hb with hb
    injection hb with _ ht
    exact hne ht.symm
theorem heap_new (w : World) (o : Obj) : (w.alloc o).heap[w.heap.size]? = some o := heap_alloc_new w o
theorem heap_old {k : Nat} {o : Obj} (h : w.heap[k]? = some o) (o' : Obj) : (w.alloc o').heap[k]? = some o := (Below.heap_alloc w o' k (blk_lt h)).trans h
theorem heap_set {g : Nat} {cs : Array Value} {t : TypeId} {fr : Nat × Nat} (h : w.heap[g]? = some (.cells cs t fr)) (i : Nat) (u : Value) : (w.setCell ⟨g, i, none⟩ u).heap[g]? = some (.cells (cs.setIfInBounds i u) t fr) := by
  simp [World.setCell, Array.getElem?_modify, h]
theorem heap_far {g : Nat} {o : Obj} (h : w.heap[g]? = some o) {p : Addr} (hp : g ≠ p.block) (u : Value) : (w.setCell p u).heap[g]? = some o := (Below.heap_setCell w p u g hp).trans h
theorem cell_heap {g : Nat} {cs : Array Value} {t : TypeId} {fr : Nat × Nat} (h : w.heap[g]? = some (.cells cs t fr)) (i : Nat) : w.cell? ⟨g, i, none⟩ = cs[i]? := Lib.cell_of_heap h i
theorem free_heap {g : Nat} {cs : Array Value} {t : TypeId} (h : w.heap[g]? = some (.cells cs t (0, 0))) (i : Nat) : w.frozen? ⟨g, i, none⟩ = false := by simp [World.frozen?, h]
/-- One cell, just laid. -/
theorem cell_one (w : World) (u : Value) (T : TypeId) : ∀ j v, [u][j]? = some v → (w.alloc (.cells #[u] T)).cell? ((⟨w.heap.size, 0, none⟩ : Addr).add j) = some v := by
  intro j v hj
  match j, hj with
  | 0, hj => simp at hj; subst hj; simp [Addr.add]
theorem own_slice {B : Nat} {e : TypeId} {sz n : Nat} {v : Value} {xs : List Value} (ho : w.ownsRow B e sz v n xs) : ∃ A c, v = .slice A n c := by
  rcases ho.2 with ⟨rfl, rfl⟩ | ⟨g, cap, cur, rfl, _⟩
  · exact ⟨none, 0, rfl⟩
  · exact ⟨_, cap, rfl⟩
/-- What '[]byte(s)' lays: the world behind it. -/
theorem bytes_fr (w : World) (e : TypeId) (s : ByteArray) : Fr (fun _ => False) w (Lib.bytesWorld w e s) :=
  ⟨rfl, rfl, rfl, by rw [Lib.bytesWorld_size]; omega, fun k hk _ => Lib.bytesWorld_at_old w e s k hk⟩
theorem bytes_cell {w wr : World} {e : TypeId} {s : ByteArray} {g : Nat} {x : Nat × Nat} (h : wr.heap[g]? = some (.cells (Lib.bytesCells w e s) e x)) (j : Nat) (hj : j < s.size) : wr.cell? ⟨g, j, none⟩ = some (.int .u8 (s.data.toList.getD j 0).toNat) := by
  rw [cell_heap h]
  simp [Lib.bytesCells, Array.getElem?_append, List.getD, hj]
end
end Go.Proofs.Ytbfjlfbahjmibaa.Bs

namespace Go.Proofs.Ytbfjlfbahjmibaa.Pr
open Go.RowKit Go.Proofs.Ytbfjlfbahjmibaa.Bs Go.Proofs.YtbfjlfbahjmibaaW.PrintWords Go.Proofs.YtbfjlfbahjmibaaW.PrintLast Go.Proofs.YtbfjlfbahjmibaaW.PrintMore
set_option linter.unusedVariables false
set_option linter.unusedSimpArgs false
/-- A byte as a text. -/
def mkT (c : UInt8) : ByteArray := ⟨#[c]⟩
abbrev TXs : Nat := 9
theorem infoT : (Try.prog.info? 9).map (fun i => (i.zero, i.size, i.bytes)) = some (some (.string ByteArray.empty), 1, 16) := by kernel_rfl
theorem one_text (W : World) (c : UInt8) : (convert 69 9 (.slice (some ⟨W.heap.size, 0, none⟩) 1 1)).run Try.prog (W.alloc (.cells #[.int .u8 c.toNat] 5)) = .ok (.string (mkT c)) (W.alloc (.cells #[.int .u8 c.toNat] 5)) := by
  have h := Lib.run_convert_whole (P := Try.prog) (W.alloc (.cells #[.int .u8 c.toNat] 5)) 69 5 9 Try.underlying69 Try.underlying5 Try.underlying9 W.heap.size 0 (mkT c) (by
    intro i hi
    have : i = 0 := by have : (mkT c).size = 1 := rfl; omega
    subst this
    rw [cell_heap (heap_new W _)]
    rfl) 1
  exact h
def stats_texts.f (a0 : ByteArray) : Option (List ByteArray) := if a0.size ≤ 1000000 then some (a0.data.toList.map mkT) else none
set_option maxHeartbeats 2000000 in
set_option maxRecDepth 100000 in
theorem stats_texts.calls (a0 : ByteArray) (r : List ByteArray) (w : World) (h : stats_texts.f a0 = some r) :
    Calls Try.prog 45 #[.string a0] w fun e w' => ∃ v0_ : Value, e = .returned (v0_) ∧ Kd.R Kd.string 9 w' w.heap.size (fun _ => True) v0_ r ∧ Below w.heap.size w w' := by
  unfold stats_texts.f at h
  split at h
  · rename_i hsz
    cases h
    have hls : a0.data.toList.length = a0.size := by simp
    have hcv := fun W s => Lib.run_convert_string_bytes (P := Try.prog) W 9 69 5 s Try.underlying9 Try.underlying69 Try.underlying5
    have hot := one_text
    obtain ⟨i1, hx1, hx0, hxs, hxb⟩ := info_parts infoT
    go_enter Try.func45, Try.ntmps45
    go_wp2_with fail
    have hnew := Lib.bytesWorld_at_new w 5 a0
    have HFR := Lib.hid (bytes_fr w 5 a0)
    have HNEW := Lib.hid hnew
    obtain ⟨g, hg⟩ : ∃ g, g = w.heap.size := ⟨_, rfl⟩
    obtain ⟨W0, hW0⟩ : ∃ W0, W0 = Lib.bytesWorld w 5 a0 := ⟨_, rfl⟩
    rw [← hW0] at HFR HNEW
    rw [← hg] at HNEW
    have HG := Lib.hid hg
    have HW0 := Lib.hid hW0
    clear hnew hg hW0 hcv
    go_loopw [3, 9] (fun v3 v9 wr => ∃ i : Nat, i ≤ a0.size ∧ v9 = .int .i64 i ∧ wr.ownsRow w.heap.size TXs 1 v3 ((a0.data.toList.take i).map mkT).length (((a0.data.toList.take i).map mkT).map Value.string) ∧ Fr (fun _ => False) w wr ∧ wr.heap[w.heap.size]? = W0.heap[w.heap.size]?) (fun _ v9 _ => a0.size - (intOf v9).toNat)
    case atStart => exact ⟨0, Nat.zero_le _, rfl, ⟨rfl, .inl ⟨rfl, rfl⟩⟩, by rw [← HW0.out]; exact HFR.out, by rw [← HW0.out]⟩
    case round =>
      obtain ⟨i, hi, rfl, hown, hfr, hgw⟩ := hrel
      rw [← HG.out, HNEW.out, HG.out] at hgw
      have HO := Lib.hid hown
      have HF := Lib.hid hfr
      have HGW := Lib.hid hgw
      clear hown hfr hgw
      by_cases hlt : i < a0.size
      · have kc : wr.cell? ⟨w.heap.size, i, none⟩ = some (.int .u8 (a0.data.toList.getD i 0).toNat) := bytes_cell HGW.out i hlt
        have htk : (a0.data.toList.take (i + 1)).map mkT = (a0.data.toList.take i).map mkT ++ [mkT (a0.data.toList.getD i 0)] := by
          rw [List.take_succ_eq_append_getElem (by omega), List.map_append]
          simp [List.getD, hlt]
        have hll : ((a0.data.toList.take i).map mkT).length = i := by simp; omega
        have HTK := Lib.hid htk
        have HLL := Lib.hid hll
        generalize a0.data.toList.getD i 0 = c at *
        generalize (a0.data.toList.take i).map mkT = L at *
        obtain ⟨A3, c3, rfl⟩ := Bs.own_slice HO.out
        have HOA := Lib.hid ((HO.out.alloc (.cells #[.int .u8 c.toNat] 5)).alloc (.cells #[.string (mkT c)] TXs))
        have hsw : w.heap.size ≤ wr.heap.size := HF.out.size
        have hsw2 : w.heap.size < wr.heap.size := Bs.blk_lt HGW.out
        clear htk hll
        go_wp2_with (at_builtin; refine wpList_append_own_at _ rfl _ _ 46 rfl w.heap.size TXs i1 (.string ByteArray.empty) 1 16 Try.underlying46 hx1 hx0 hxs hxb rfl (by decide) (.slice A3 L.length c3) _ _ rfl HOA.out ⟨wr.heap.size + 1, 0, none⟩ 1 1 [.string (mkT c)] rfl rfl ?c1 ?c2 ?c3 ?c4 ?c5 ?_)
        case c1 =>
          intro j u hj
          match j, hj with
          | 0, hj =>
            simp at hj
            subst hj
            have hn := heap_new (wr.alloc (.cells #[.int .u8 c.toNat] 5)) (.cells #[.string (mkT c)] TXs)
            rw [World.size_alloc] at hn
            rw [show (⟨wr.heap.size + 1, 0, none⟩ : Addr).add 0 = ⟨wr.heap.size + 1, 0, none⟩ by simp [Addr.add], cell_heap hn]
            rfl
        case c2 => intro u hu; simp at hu; subst hu; rfl
        case c3 => unfold maxLen; have := HLL.out; omega
        case c4 => have := HLL.out; omega
        case c5 => simp; omega
        intro v4 w4 hown4 hg4 _ _
        have HO4 := Lib.hid (show w4.ownsRow w.heap.size TXs 1 v4 (L ++ [mkT c]).length ((L ++ [mkT c]).map Value.string) by simpa using hown4)
        have HF4 := Lib.hid (((HF.out.alloc (.cells #[.int .u8 c.toNat] 5)).alloc (.cells #[.string (mkT c)] TXs)).grown hg4 (fun k hk => .inr (Bs.own_lt HO.out hk).1))
        have hg5 : w4.heap[w.heap.size]? = W0.heap[w.heap.size]? := by
          rw [hg4.block _ (by simp; omega) (fun e => Bs.own_ne HO.out HGW.out (show (5 : Nat) ≠ TXs by decide) e.symm), ← HG.out, HNEW.out, HG.out]
          exact heap_old (heap_old HGW.out _) _
        have HG5 := Lib.hid hg5
        clear hg5
        clear hown4 hg4
        go_wp2_with fail
        exact ⟨⟨i + 1, by omega, by go_num, by rw [HTK.out]; exact HO4.out, HF4.out, HG5.out⟩, by simp [intOf]; omega⟩
      · have hil : i = a0.size := by omega
        have ho := HO.out
        rw [hil, List.take_of_length_le (by omega)] at ho
        have HO2 := Lib.hid ho
        clear ho HO hil
        go_wp2_with fail
        go_ret
        have hR : Kd.R Kd.string 9 wr w.heap.size (fun _ => True) u3 (a0.data.toList.map mkT) := Kd.R_of_own HO2.out (fun _ _ => trivial)
        exact ⟨u3, rfl, hR, HF.out.toBelow (fun _ h => h.elim) (Nat.le_refl _)⟩
  · cases h
/-- Is a text ahead of another one? -/
def lessL : List UInt8 → List UInt8 → Bool
  | [], [] => false
  | [], _ :: _ => true
  | _ :: _, [] => false
  | a :: l, b :: m => if a = b then lessL l m else decide (a < b)
def gluepotref01_Less.f (a0 a1 : ByteArray) : Option Bool := if a0.size ≤ 1000000 ∧ a1.size ≤ 1000000 then some (lessL a0.data.toList a1.data.toList) else none
set_option maxHeartbeats 2000000 in
set_option maxRecDepth 100000 in
theorem gluepotref01_Less.calls (a0 a1 : ByteArray) (r : Bool) (w : World) (h : gluepotref01_Less.f a0 a1 = some r) :
    Calls Try.prog 39 #[.string a0, .string a1] w fun e w' => e = .returned (.bool r) ∧ ∃ q, w' = w.drewN q := by
  unfold gluepotref01_Less.f at h
  split at h
  · rename_i hsz
    cases h
    obtain ⟨hs0, hs1⟩ := hsz
    have hl0 : a0.data.toList.length = a0.size := by simp
    have hl1 : a1.data.toList.length = a1.size := by simp
    go_enter Try.func39, Try.ntmps39
    go_wp2_with fail
    go_loopw [5] (fun v5 wr => ∃ i : Nat, v5 = .int .i64 i ∧ i ≤ a0.size ∧ i ≤ a1.size ∧ lessL (a0.data.toList.drop i) (a1.data.toList.drop i) = lessL a0.data.toList a1.data.toList ∧ ∃ q, wr = w.drewN q) (fun v5 _ => a0.size - (intOf v5).toNat)
    case atStart => exact ⟨0, rfl, Nat.zero_le _, Nat.zero_le _, rfl, 0, rfl⟩
    case round =>
      obtain ⟨i, rfl, hi0, hi1, hls, q, rfl⟩ := hrel
      have HLS := Lib.hid hls
      clear hls
      by_cases hlt : i < a0.size ∧ i < a1.size
      · obtain ⟨h0, h1⟩ := hlt
        have hd0 : a0.data.toList.drop i = a0[i] :: a0.data.toList.drop (i + 1) := List.drop_eq_getElem_cons (by omega)
        have hd1 : a1.data.toList.drop i = a1[i] :: a1.data.toList.drop (i + 1) := List.drop_eq_getElem_cons (by omega)
        have HD0 := Lib.hid hd0
        have HD1 := Lib.hid hd1
        clear hd0 hd1
        by_cases hne : a0[i] = a1[i]
        · have hb : ((a0[i].toNat : Int) != (a1[i].toNat : Int)) = false := by rw [hne]; simp
          have HNE := Lib.hid hne
          clear hne
          go_wp2_with fail
          go_region
          go_wp2_with fail
          exact ⟨⟨i + 1, by go_num, by omega, by omega, by rw [← HLS.out, HD0.out, HD1.out, lessL, if_pos HNE.out], _, rfl⟩, by simp [intOf]; omega⟩
        · have hb : ((a0[i].toNat : Int) != (a1[i].toNat : Int)) = true := by
            have : a0[i].toNat ≠ a1[i].toNat := fun e => hne (UInt8.toNat_inj.1 e)
            simp
            omega
          have HNE := Lib.hid hne
          clear hne
          go_wp2_with fail
          go_region
          go_wp2_with fail
          go_region
          go_wp2_with fail
          go_ret
          refine ⟨?_, _, rfl⟩
          rw [← HLS.out, HD0.out, HD1.out, lessL, if_neg HNE.out]
          simp [UInt8.lt_iff_toNat_lt]
      · have hx : lessL (a0.data.toList.drop i) (a1.data.toList.drop i) = decide (a0.size < a1.size) := by
          rcases Nat.lt_or_ge i a0.size with h | h
          · have hi1' : i = a1.size := by omega
            rw [show a1.data.toList.drop i = [] from List.drop_of_length_le (by omega), show a0.data.toList.drop i = a0.data.toList[i]'(by omega) :: a0.data.toList.drop (i + 1) from List.drop_eq_getElem_cons (by omega), lessL]
            symm
            exact decide_eq_false (by omega)
          · have hi0' : i = a0.size := by omega
            rw [show a0.data.toList.drop i = [] from List.drop_of_length_le (by omega)]
            rcases Nat.lt_or_ge i a1.size with h2 | h2
            · rw [show a1.data.toList.drop i = a1.data.toList[i]'(by omega) :: a1.data.toList.drop (i + 1) from List.drop_eq_getElem_cons (by omega), lessL]
              symm
              exact decide_eq_true (by omega)
            · rw [show a1.data.toList.drop i = [] from List.drop_of_length_le (by omega), lessL]
              symm
              exact decide_eq_false (by omega)
        have HX := Lib.hid hx
        clear hx
        go_wp2_with fail
        all_goals go_ret
        all_goals refine ⟨?_, _, rfl⟩
        all_goals rw [← HLS.out, HX.out]
        all_goals rfl
  · cases h
end Go.Proofs.Ytbfjlfbahjmibaa.Pr
