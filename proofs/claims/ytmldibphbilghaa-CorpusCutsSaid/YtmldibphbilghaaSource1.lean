/- source: a Script at block b (made since B), its pieces l in a row of its own; New, Next, Size. -/
import Derived.Test.YtmldibphbilghaaSplit3
import Derived.Test.YtmldibphbilghaaSpFeeds
import Derived.StillTailTactics
namespace Go.Proofs.Ytmldibphbilghaa.Src
open Go.RowKit Go.Proofs.Ytmldibphbilghaa.Bs Go.Proofs.YtmldibphbilghaaW.PrintWords Go.Proofs.YtmldibphbilghaaW.PrintLast Go.Proofs.YtmldibphbilghaaW.PrintMore
set_option linter.unusedVariables false
set_option linter.unusedSimpArgs false

abbrev TC : Nat := 76
abbrev TX : Nat := 9
def Scr (B b : Nat) (ob : Option Nat) (l : List ByteArray) (i : Nat) (fail : Int) (w : World) : Prop :=
  ∃ v, B ≤ b ∧ w.heap[b]? = some (.cells #[v, .int .i64 i, .int .i64 fail] TC (0, 0)) ∧ w.ownsRow B TX 1 v l.length (l.map Value.string) ∧ v.ownBlock = ob
section
variable {B b : Nat} {ob : Option Nat} {l : List ByteArray} {i : Nat} {fail : Int} {w w' : World}
theorem Scr.lt (h : Scr B b ob l i fail w) : b < w.heap.size := by
  obtain ⟨v, _, hb, _⟩ := h
  exact Bs.blk_lt hb
theorem Scr.le (h : Scr B b ob l i fail w) : B ≤ b := by
  obtain ⟨v, hB, _⟩ := h
  exact hB
theorem Scr.row (h : Scr B b ob l i fail w) {g : Nat} (hg : ob = some g) : B ≤ g ∧ g < w.heap.size ∧ g ≠ b := by
  obtain ⟨v, _, hb, ho, rfl⟩ := h
  exact ⟨(own_lt ho hg).1, (own_lt ho hg).2, fun e => Bs.own_ne ho hb (by decide) (by rw [hg, e])⟩
theorem Scr.fr {S : Nat → Prop} (h : Scr B b ob l i fail w) (hf : Fr S w w') (h1 : ¬ S b) (h2 : ∀ g, ob = some g → ¬ S g) : Scr B b ob l i fail w' := by
  obtain ⟨v, hB, hb, ho, rfl⟩ := h
  exact ⟨v, hB, hf.heap hb h1, hf.own ho h2, rfl⟩
end
/-- What the pieces from the i-th on tell: those that are not empty, up to fail; the error behind them. -/
def told (fail : Int) : Nat → List ByteArray → List ByteArray × Int
  | i, [] => ([], if (i : Int) = fail then 3 else 0)
  | i, s :: r => if (i : Int) = fail then ([], 3) else if s = ByteArray.empty then told fail (i + 1) r else (s :: (told fail (i + 1) r).1, (told fail (i + 1) r).2)
/-- How many bytes. -/
def size (fail : Int) : Nat → List ByteArray → Nat
  | i, [] => 0
  | i, s :: r => if (i : Int) = fail then 0 else s.size + size fail (i + 1) r
/-! ### New -/
theorem row_cells {w : World} {A : Option Addr} {l : List ByteArray} (h : Kd.C Kd.string w A l.length l) (hp : 0 < l.length) : ∃ g o, A = some ⟨g, o, none⟩ ∧ ∀ j, j < l.length → w.cell? ⟨g, o + j, none⟩ = some (.string (l.getD j ByteArray.empty)) := by
  obtain ⟨ad, rfl, h0⟩ := Kd.at_string h 0 (by omega) (by omega)
  obtain ⟨g, o, sp⟩ := ad
  have : sp = none := by
    cases sp with
    | none => rfl
    | some x =>
      simp only [World.cell?, Addr.add] at h0
      split at h0
      · simp at h0
      · cases h0
  subst this
  refine ⟨g, o, rfl, fun j hj => ?_⟩
  obtain ⟨ad, he, hc⟩ := Kd.at_string h (j : Int) (by omega) (by omega)
  cases he
  rw [Int.toNat_natCast] at hc
  rw [show (⟨g, o + j, none⟩ : Addr) = Addr.add ⟨g, o, none⟩ j from (by simp [Addr.add]), hc, Pure.rd_get l j hj, List.getD_eq_getElem?_getD, List.getElem?_eq_getElem hj]
  rfl
set_option maxHeartbeats 1000000 in
set_option maxRecDepth 100000 in
theorem clone_c (A : Option Addr) (c : Nat) (l : List ByteArray) (w : World) (h : Kd.C Kd.string w A l.length l) (hbig : l.length ≤ 1000000) :
    Calls Try.prog 46 #[.slice A l.length c] w fun e w' => ∃ v, e = .returned v ∧ w'.ownsRow w.heap.size TX 1 v l.length (l.map Value.string) ∧ Below w.heap.size w w' := by
  cases A with
  | none =>
    have : l = [] := by
      cases l with
      | nil => rfl
      | cons s r =>
        obtain ⟨g, o, he, _⟩ := row_cells h (by simp)
        cases he
    subst this
    refine (Try.slices_Clone_string_nil _ _ _).mono ?_
    rintro e w' ⟨rfl, rfl⟩
    exact ⟨_, rfl, ⟨rfl, .inl ⟨rfl, rfl⟩⟩, Below.refl _ _⟩
  | some ad =>
    by_cases hp : 0 < l.length
    · obtain ⟨g, o, he, hc⟩ := row_cells h hp
      cases he
      refine (Try.slices_Clone_string g o l.length c l w (Nat.le_refl _) (by omega) hc).mono ?_
      rintro e w' ⟨v, rfl, ho, _, hb⟩
      rw [List.take_of_length_le (Nat.le_refl _)] at ho
      exact ⟨_, rfl, ho, hb⟩
    · have : l = [] := List.eq_nil_of_length_eq_zero (by omega)
      subst this
      refine (Try.slices_Clone_string_zero _ _ _).mono ?_
      rintro e w' ⟨v, rfl, ho, _, hb⟩
      exact ⟨_, rfl, ho, hb⟩
set_option maxHeartbeats 1000000 in
set_option maxRecDepth 100000 in
theorem new_c (A : Option Addr) (c : Nat) (l : List ByteArray) (fail : Int) (w : World) (h : Kd.C Kd.string w A l.length l) (hbig : l.length ≤ 1000000) :
    Calls Try.prog 29 #[.slice A l.length c, .int .i64 fail] w fun e w' => ∃ b ob, e = .returned (.pointer (some ⟨b, 0, none⟩)) ∧ Scr w.heap.size b ob l 0 fail w' ∧ Fr (fun _ => False) w w' := by
  have HC := Lib.hid (clone_c A c l w h hbig)
  clear h
  go_enter Try.func29, Try.ntmps29
  go_wp2_with fail
  refine HC.out.mono ?_
  rintro e w1 ⟨v, rfl, ho, hb⟩
  obtain ⟨A1, c1, rfl⟩ := Bs.own_slice ho
  have HO := Lib.hid ho
  have HB := Lib.hid hb
  clear ho hb HC
  go_wp2_with fail
  go_ret
  have hf : Fr (fun _ => False) w1 (w1.alloc (.cells #[.slice A1 l.length c1, .int .i64 0, .int .i64 fail] TC)) := (Fr.refl _ _).alloc _
  exact ⟨w1.heap.size, _, rfl, ⟨_, HB.out.size, heap_new _ _, hf.own HO.out (fun _ _ h => h), rfl⟩, (Fr.ofBelow HB.out).trans hf (fun _ h => h.elim)⟩
/-! ### Next -/
/-- What Next hands back: the answers, and where the Script stands. -/
def nxt (fail : Int) : Nat → List ByteArray → Option ByteArray × Int × Nat
  | i, [] => if (i : Int) = fail then (none, 3, i) else (none, 0, i)
  | i, s :: r => if (i : Int) = fail then (none, 3, i) else if s = ByteArray.empty then nxt fail (i + 1) r else (some s, 0, i + 1)
/-- What Next hands back. -/
def Hands (w0 : World) (e : Ending) (w' : World) (o : Option ByteArray) (err : Int) : Prop :=
  match o with
  | none => e = .returned (.tuple #[.slice none 0 0, .bool false, .int .i64 err])
  | some s => ∃ cp, e = .returned (.tuple #[.slice (some ⟨w0.heap.size, 0, none⟩) s.size cp, .bool true, .int .i64 err]) ∧ w'.heap[w0.heap.size]? = some (.cells (Lib.bytesCells w0 5 s) 5 ((Lib.bytesCells w0 5 s).size, (Lib.bytesCells w0 5 s).size + 1))
set_option maxHeartbeats 1000000 in
set_option maxRecDepth 100000 in
theorem next_nil (w : World) : Calls Try.prog 32 #[.pointer none] w fun e w' => e = .returned (.tuple #[.slice none 0 0, .bool false, .int .i64 0]) ∧ w' = w := by
  go_enter Try.func32, Try.ntmps32
  go_wp2_with fail
  go_ret3
  exact ⟨rfl, rfl⟩
set_option maxHeartbeats 1000000 in
set_option maxRecDepth 100000 in
theorem size_nil (w : World) : Calls Try.prog 35 #[.pointer none] w fun e w' => e = .returned (.int .i64 0) ∧ w' = w := by
  go_enter Try.func35, Try.ntmps35
  go_wp2_with fail
  go_ret
  exact ⟨rfl, rfl⟩
set_option maxHeartbeats 1000000 in
set_option maxRecDepth 100000 in
theorem plain_nil (w : World) : Calls Try.prog 34 #[.pointer none] w fun e w' => e = .returned (.tuple #[.slice none 0 0, .bool false, .int .i64 0]) ∧ w' = w := by
  go_enter Try.func34, Try.ntmps34
  go_wp2_with fail
  go_ret3
  exact ⟨rfl, rfl⟩
theorem empty_of {s : ByteArray} (h : s.toList.isEmpty = true) : s = ByteArray.empty := by
  have h2 : s.data.toList = [] := by
    have := List.isEmpty_iff.1 h
    rwa [ByteArray.toList_eq] at this
  cases s with
  | mk d => simp at h2; subst h2; rfl
/-- A Plain at block b. -/
abbrev PlainAt (b : Nat) (s : ByteArray) (w : World) : Prop := w.heap[b]? = some (.cells #[.string s] 57 (0, 0))
def plain (s : ByteArray) : Option ByteArray := if s = ByteArray.empty then none else some s
set_option maxHeartbeats 1000000 in
set_option maxRecDepth 100000 in
theorem plain_c (b : Nat) (s : ByteArray) (w : World) (h : PlainAt b s w) :
    Calls Try.prog 34 #[.pointer (some ⟨b, 0, none⟩)] w fun e w' => Hands w e w' (plain s) 0 ∧ PlainAt b ByteArray.empty w' ∧ Fr (fun k => k = b) w w' := by
  have c0 : w.cell? ⟨b, 0, none⟩ = some (.string s) := by rw [cell_heap h]; rfl
  have HH := Lib.hid h
  have hcv := fun W s => Lib.run_convert_string_bytes (P := Try.prog) W 9 31 5 s Try.underlying9 Try.underlying31 Try.underlying5
  have hfb := bytes_fr w 5 s
  have hnew := Lib.bytesWorld_at_new w 5 s
  have hb1 := hfb.heap h (fun h => h)
  have c1 : (Lib.bytesWorld w 5 s).frozen? ⟨b, 0, none⟩ = false := free_heap hb1 0
  have c2 : (Lib.bytesWorld w 5 s).cell? ⟨b, 0, none⟩ = some (.string s) := by rw [cell_heap hb1]; rfl
  have HFB := Lib.hid hfb
  have HN := Lib.hid hnew
  have HB1 := Lib.hid hb1
  clear h hfb hnew hb1
  go_enter Try.func34, Try.ntmps34
  go_wp2_with fail
  · rename_i he
    have := empty_of he
    subst this
    go_ret3
    exact ⟨rfl, HH.out, Fr.refl _ _⟩
  · rename_i he
    go_ret3
    have hne : s ≠ ByteArray.empty := fun e => by rw [e, ByteArray.toList_eq] at he; cases he
    refine ⟨?_, ?_, ?_⟩
    · rw [plain, if_neg hne]
      refine ⟨_, rfl, ?_⟩
      exact heap_far HN.out (p := ⟨b, 0, none⟩) (by have := Bs.blk_lt HH.out; show w.heap.size ≠ b; omega) _
    · have := heap_set HB1.out 0 (.string ByteArray.empty)
      rw [show (#[Value.string s]).setIfInBounds 0 (.string ByteArray.empty) = #[.string ByteArray.empty] from rfl] at this
      exact this
    · exact Fr.set (S := fun k => k = b) (HFB.out.mono (fun _ h => h.elim)) (p := ⟨b, 0, none⟩) (.inl rfl) _
/-- The number that a cell holds. -/
def numAt (w : World) (b o : Nat) : Nat := match w.cell? ⟨b, o, none⟩ with
  | some (.int _ i) => i.toNat
  | _ => 0
theorem Scr.step {B b : Nat} {ob : Option Nat} {l : List ByteArray} {j : Nat} {fail : Int} {w : World} (h : Scr B b ob l j fail w) : Scr B b ob l (j + 1) fail (w.setCell ⟨b, 1, none⟩ (.int .i64 ((j : Int) + 1))) := by
  obtain ⟨v, hB, hb, ho, rfl⟩ := h
  have hne := Bs.own_ne ho hb (show TC ≠ TX by decide)
  refine ⟨v, hB, ?_, ?_, rfl⟩
  · have := heap_set hb 1 (.int .i64 ((j : Int) + 1))
    exact this
  · exact ((Fr.refl (fun k => k = b) w).set (p := ⟨b, 1, none⟩) (.inl rfl) _).own ho (fun g hg e => hne (by rw [hg, e]))
theorem numAt_of {w : World} {b o : Nat} {t : IntKind} {i : Int} (h : w.cell? ⟨b, o, none⟩ = some (.int t i)) : numAt w b o = i.toNat := by simp [numAt, h]
theorem Scr.at {B b : Nat} {ob : Option Nat} {l : List ByteArray} {j : Nat} {fail : Int} {w : World} (h : Scr B b ob l j fail w) : numAt w b 1 = j := by
  obtain ⟨v, hB, hb, _⟩ := h
  rw [numAt_of (show w.cell? ⟨b, 1, none⟩ = some (.int .i64 j) by rw [cell_heap hb]; rfl)]
  simp
set_option maxHeartbeats 4000000 in
set_option maxRecDepth 100000 in
theorem next_c (B b : Nat) (ob : Option Nat) (l : List ByteArray) (i : Nat) (fail : Int) (w : World) (h : Scr B b ob l i fail w) (hi : i ≤ l.length) (hbig : l.length ≤ 1000000) :
    Calls Try.prog 32 #[.pointer (some ⟨b, 0, none⟩)] w fun e w' => ∃ w0 : World, w0.heap.size = w.heap.size ∧ Hands w0 e w' (nxt fail i (l.drop i)).1 (nxt fail i (l.drop i)).2.1 ∧ Scr B b ob l (nxt fail i (l.drop i)).2.2 fail w' ∧ Fr (fun k => k = b) w w' := by
  have HS := Lib.hid h
  have hcv := fun W s => Lib.run_convert_string_bytes (P := Try.prog) W 9 31 5 s Try.underlying9 Try.underlying31 Try.underlying5
  clear h
  go_enter Try.func32, Try.ntmps32
  go_wp2_with fail
  go_loopw [10] (fun v10 wr => ∃ j, j ≤ l.length ∧ nxt fail j (l.drop j) = nxt fail i (l.drop i) ∧ wr.heap.size = w.heap.size ∧ Scr B b ob l j fail wr ∧ Fr (fun k => k = b) w wr) (fun _ wr => l.length + 1 - numAt wr b 1)
  case atStart => exact ⟨i, hi, rfl, rfl, HS.out, Fr.refl _ _⟩
  case round =>
    obtain ⟨j, hj, hn, hsz, hs, hfr⟩ := hrel
    have HS2 := Lib.hid hs
    obtain ⟨v, hB, hb, ho, hob⟩ := hs
    obtain ⟨A1, c1, rfl⟩ := Bs.own_slice ho
    have k0 : wr.cell? ⟨b, 0, none⟩ = some (.slice A1 l.length c1) := by rw [cell_heap hb]; rfl
    have k1 : wr.cell? ⟨b, 1, none⟩ = some (.int .i64 j) := by rw [cell_heap hb]; rfl
    have k2 : wr.cell? ⟨b, 2, none⟩ = some (.int .i64 fail) := by rw [cell_heap hb]; rfl
    have kf : wr.frozen? ⟨b, 1, none⟩ = false := free_heap hb 1
    have HB := Lib.hid hb
    have HO := Lib.hid ho
    have HF := Lib.hid hfr
    have HN := Lib.hid hn
    clear hb ho hfr hn
    by_cases hjf : (j : Int) = fail
    · have hx : nxt fail j (l.drop j) = (none, 3, j) := by
        cases l.drop j <;> (rw [nxt, if_pos hjf])
      go_wp2_with fail
      go_region
      go_wp2_with fail
      go_region
      go_wp2_with fail
      go_ret3
      rw [← HN.out, hx]
      exact ⟨wr, hsz, rfl, HS2.out, HF.out.drew.drew⟩
    · by_cases hjl : j = l.length
      · have hx : nxt fail j (l.drop j) = (none, 0, j) := by
          rw [hjl, List.drop_length, nxt, if_neg (by rw [← hjl]; exact hjf)]
        have HJL := Lib.hid hjl
        go_wp2_with fail
        go_region
        go_wp2_with fail
        go_region
        go_wp2_with fail
        go_region
        go_wp2_with fail
        go_ret3
        rw [← HN.out, hx]
        exact ⟨wr, hsz, rfl, HS2.out, HF.out.drew.drew.drew⟩
      · have hlt : j < l.length := by omega
        have hd : l.drop j = l[j] :: l.drop (j + 1) := List.drop_eq_getElem_cons hlt
        obtain ⟨g, rfl⟩ : ∃ g, A1 = some ⟨g, 0, none⟩ := by
          rcases HO.out.2 with ⟨he, h0⟩ | ⟨g, cp, cur, he, _⟩
          · simp at h0; subst h0; simp at hlt
          · cases he; exact ⟨g, rfl⟩
        have hgb : g ≠ b := fun e => Bs.own_ne HO.out HB.out (by decide) (by rw [e]; rfl)
        have kc : wr.cell? ⟨g, j, none⟩ = some (.string l[j]) := by
          have := HO.out.cells (g := g) rfl j _ (by simp [hlt] : (l.map Value.string)[j]? = some (.string l[j]))
          rw [show (⟨g, j, none⟩ : Addr) = Addr.add ⟨g, 0, none⟩ j from (by simp [Addr.add])]
          exact this
        have HD := Lib.hid hd
        clear hd
        generalize hpc : l[j] = pc at *
        by_cases he : pc = ByteArray.empty
        · subst he
          go_wp2_with fail
          go_region
          go_wp2_with fail
          go_region
          go_wp2_with fail
          go_region
          go_wp2_with fail
          go_region
          go_wp2_with fail
          have hs2 : Scr B b ob l (j + 1) fail (wr.setCell ⟨b, 1, none⟩ (.int .i64 ((j : Int) + 1))).drew.drew.drew.drew := HS2.out.step
          refine ⟨⟨j + 1, by omega, ?_, by simp [World.setCell, World.drew, hsz], hs2, (HF.out.set (.inl rfl) _).drew.drew.drew.drew⟩, ?_⟩
          · rw [← HN.out, HD.out, nxt, if_neg hjf, if_pos rfl]
          · rw [hs2.at, HS2.out.at]
            omega
        · have hpe : pc.toList.isEmpty = false := by
            cases hq : pc.toList.isEmpty with
            | false => rfl
            | true => exact absurd (empty_of hq) he
          go_wp2_with fail
          go_region
          go_wp2_with fail
          go_region
          go_wp2_with fail
          go_region
          go_wp2_with fail
          go_region
          go_wp2_with fail
          have hx : nxt fail j (l.drop j) = (some pc, 0, j + 1) := by rw [HD.out, nxt, if_neg hjf, if_neg he]
          obtain ⟨W, hW⟩ : ∃ W, W = (wr.setCell ⟨b, 1, none⟩ (.int .i64 ((j : Int) + 1))).drew.drew.drew.drew := ⟨_, rfl⟩
          have hWs : W.heap.size = w.heap.size := by rw [hW]; simp [World.setCell, World.drew, hsz]
          have hs2 : Scr B b ob l (j + 1) fail W := by rw [hW]; exact HS2.out.step
          have hf2 : Fr (fun k => k = b) w W := by rw [hW]; exact (HF.out.set (.inl rfl) _).drew.drew.drew.drew
          have m0 : W.cell? ⟨b, 0, none⟩ = some (.slice (some ⟨g, 0, none⟩) l.length c1) := by
            rw [hW]
            exact (cell_heap (heap_set HB.out 1 (.int .i64 ((j : Int) + 1))) 0).trans rfl
          have m1 : W.cell? ⟨b, 1, none⟩ = some (.int .i64 ((j : Int) + 1)) := by
            rw [hW]
            exact (cell_heap (heap_set HB.out 1 (.int .i64 ((j : Int) + 1))) 1).trans rfl
          have mc : W.cell? ⟨g, j, none⟩ = some (.string pc) := by
            rw [hW]
            exact ((Fr.refl (fun k => k = b) wr).set (p := ⟨b, 1, none⟩) (.inl rfl) (.int .i64 ((j : Int) + 1))).cell kc hgb
          rw [← hW]
          have HS3 := Lib.hid hs2
          have HF3 := Lib.hid hf2
          have HWS := Lib.hid hWs
          clear hW hs2 hf2 hWs k0 k1 kc kf HF HS2
          go_region
          go_wp2_with fail
          go_ret3
          have hfb := bytes_fr W.drew 5 pc
          have hn3 := Lib.bytesWorld_at_new W.drew 5 pc
          have hs3 : Scr B b ob l (j + 1) fail (Lib.bytesWorld W.drew 5 pc) := Scr.fr (w := W.drew) HS3.out hfb (fun h => h) (fun _ _ h => h)
          have hf3 : Fr (fun k => k = b) w (Lib.bytesWorld W.drew 5 pc) := HF3.out.drew.trans hfb (fun _ h => h.elim)
          rw [← HN.out, hx]
          refine ⟨W.drew, HWS.out, ?_, hs3, hf3⟩
          refine ⟨grownCap W.drew pc.size 0 5, ?_, hn3⟩
          rfl
end Go.Proofs.Ytmldibphbilghaa.Src
