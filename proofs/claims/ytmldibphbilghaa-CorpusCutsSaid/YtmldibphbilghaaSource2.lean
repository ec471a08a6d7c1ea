/- source: Script.Size; what is boxed: Size, Must, All; the Builder's Write. -/
import Derived.Test.YtmldibphbilghaaSource1
import Derived.Test.YtmldibphbilghaaBuilder
import Derived.Stop.Asserts
namespace Go.Proofs.Ytmldibphbilghaa.Src
open Go.RowKit Go.Proofs.Ytmldibphbilghaa.Bs Go.Proofs.YtmldibphbilghaaW.PrintWords Go.Proofs.YtmldibphbilghaaW.PrintLast Go.Proofs.YtmldibphbilghaaW.PrintMore
set_option linter.unusedVariables false
set_option linter.unusedSimpArgs false

set_option maxHeartbeats 4000000 in
set_option maxRecDepth 100000 in
theorem size_c (B b : Nat) (ob : Option Nat) (l : List ByteArray) (i : Nat) (fail : Int) (w : World) (h : Scr B b ob l i fail w) (hbig : l.length ≤ 1000000) (hsz : size fail 0 l ≤ 1000000) :
    Calls Try.prog 35 #[.pointer (some ⟨b, 0, none⟩)] w fun e w' => e = .returned (.int .i64 (size fail 0 l)) ∧ Fr (fun _ => False) w w' := by
  obtain ⟨v, hB, hb, ho, hob⟩ := h
  obtain ⟨A1, c1, rfl⟩ := Bs.own_slice ho
  have k0 : w.cell? ⟨b, 0, none⟩ = some (.slice A1 l.length c1) := by rw [cell_heap hb]; rfl
  have HB := Lib.hid hb
  have HO := Lib.hid ho
  clear hb ho
  go_enter Try.func35, Try.ntmps35
  go_wp2_with fail
  go_loopw [3, 13] (fun v3 v13 wr => wr = w ∧ ∃ n j : Nat, j ≤ l.length ∧ v3 = .int .i64 n ∧ v13 = .int .i64 j ∧ n + size fail j (l.drop j) = size fail 0 l) (fun _ v13 _ => l.length - (intOf v13).toNat)
  case atStart => exact ⟨rfl, 0, 0, Nat.zero_le _, rfl, rfl, by simp⟩
  case round =>
    obtain ⟨rfl, n, j, hj, rfl, rfl, hn⟩ := hrel
    have HN := Lib.hid hn
    clear hn
    by_cases hlt : j < l.length
    · have hd : l.drop j = l[j] :: l.drop (j + 1) := List.drop_eq_getElem_cons hlt
      obtain ⟨g, rfl⟩ : ∃ g, A1 = some ⟨g, 0, none⟩ := by
        rcases HO.out.2 with ⟨he, h0⟩ | ⟨g, cp, cur, he, _⟩
        · simp at h0; subst h0; simp at hlt
        · cases he; exact ⟨g, rfl⟩
      have kc : wr.cell? ⟨g, j, none⟩ = some (.string l[j]) := by
        have := HO.out.cells (g := g) rfl j _ (by simp [hlt] : (l.map Value.string)[j]? = some (.string l[j]))
        rw [show (⟨g, j, none⟩ : Addr) = Addr.add ⟨g, 0, none⟩ j from (by simp [Addr.add])]
        exact this
      have k2 : wr.cell? ⟨b, 2, none⟩ = some (.int .i64 fail) := by rw [cell_heap HB.out]; rfl
      generalize hpc : l[j] = pc at *
      by_cases hjf : (j : Int) = fail
      · have hx : size fail j (l.drop j) = 0 := by rw [hd, size, if_pos hjf]
        have HX := Lib.hid hx
        clear hx hd
        subst hjf
        go_wp2_with fail
        go_ret
        rw [HX.out] at HN
        have := HN.out
        exact ⟨by rw [← this]; rfl, Fr.refl _ _⟩
      · have hx : size fail j (l.drop j) = pc.size + size fail (j + 1) (l.drop (j + 1)) := by rw [hd, size, if_neg hjf]
        have hbd : n + pc.size ≤ 1000000 := by have := HN.out; omega
        have HX := Lib.hid hx
        clear hx hd
        go_wp2_with fail
        go_roundw
        case rel => exact ⟨trivial, n + pc.size, j + 1, by omega, by go_num, by go_num, by have := HN.out; rw [HX.out] at this; omega⟩
        case measure => simp [intOf]; omega
    · have hx : size fail j (l.drop j) = 0 := by rw [List.drop_of_length_le (by omega), size]
      have HX := Lib.hid hx
      clear hx
      go_wp2_with fail
      go_ret
      rw [HX.out] at HN
      have := HN.out
      exact ⟨by rw [← this]; rfl, Fr.refl _ _⟩

abbrev PC : Nat := 43
abbrev PP : Nat := 54
theorem nilSource (xT : TypeId) (w : World) : (Instr.typeAssert .nilIface xT 59 true).run Try.prog w = .ok (.tuple #[.nilIface, .bool false]) w := by kernel_rfl
theorem nilSized (xT : TypeId) (w : World) : (Instr.typeAssert .nilIface xT 78 true).run Try.prog w = .ok (.tuple #[.nilIface, .bool false]) w := by kernel_rfl
theorem mustPlain (v : Value) (xT : TypeId) (w : World) : (Instr.typeAssert (.iface PP v) xT 59 false).run Try.prog w = .ok (.iface PP v) w := by kernel_rfl
theorem mSize (a : Addr) (w : World) (n : Nat) (hn : n = 207) : (method n PC (.pointer (some a)) "Size").run Try.prog w = .ok (35, .pointer (some a)) w := by subst hn; kernel_rfl
theorem mNextS (a : Addr) (w : World) (n : Nat) (hn : n = 207) : (method n PC (.pointer (some a)) "Next").run Try.prog w = .ok (32, .pointer (some a)) w := by subst hn; kernel_rfl
theorem mNextP (a : Addr) (w : World) (n : Nat) (hn : n = 207) : (method n PP (.pointer (some a)) "Next").run Try.prog w = .ok (34, .pointer (some a)) w := by subst hn; kernel_rfl
theorem isInt (v : Value) (xT : TypeId) (w : World) : (Instr.typeAssert (.iface 3 v) xT 59 true).run Try.prog w = .ok (.tuple #[.nilIface, .bool false]) w := run_typeAssert_lacksB Try.underlying59 (by kernel_rfl) (by kernel_rfl) v xT w
theorem isStr (v : Value) (xT : TypeId) (w : World) : (Instr.typeAssert (.iface 9 v) xT 59 true).run Try.prog w = .ok (.tuple #[.nilIface, .bool false]) w := run_typeAssert_lacksB Try.underlying59 (by kernel_rfl) (by kernel_rfl) v xT w
theorem isScr (v : Value) (xT : TypeId) (w : World) : (Instr.typeAssert (.iface PC v) xT 59 true).run Try.prog w = .ok (.tuple #[.iface PC v, .bool true]) w := run_typeAssert_hasB Try.underlying59 (by kernel_rfl) v xT w
theorem isPlain (v : Value) (xT : TypeId) (w : World) : (Instr.typeAssert (.iface PP v) xT 59 true).run Try.prog w = .ok (.tuple #[.iface PP v, .bool true]) w := run_typeAssert_hasB Try.underlying59 (by kernel_rfl) v xT w
theorem sizedStr (v : Value) (xT : TypeId) (w : World) : (Instr.typeAssert (.iface 9 v) xT 78 true).run Try.prog w = .ok (.tuple #[.nilIface, .bool false]) w := run_typeAssert_lacksB Try.underlying78 (by kernel_rfl) (by kernel_rfl) v xT w
theorem sizedScr (v : Value) (xT : TypeId) (w : World) : (Instr.typeAssert (.iface PC v) xT 78 true).run Try.prog w = .ok (.tuple #[.iface PC v, .bool true]) w := run_typeAssert_hasB Try.underlying78 (by kernel_rfl) v xT w
theorem sizedPlain (v : Value) (xT : TypeId) (w : World) : (Instr.typeAssert (.iface PP v) xT 78 true).run Try.prog w = .ok (.tuple #[.nilIface, .bool false]) w := run_typeAssert_lacksB Try.underlying78 (by kernel_rfl) (by kernel_rfl) v xT w
set_option maxHeartbeats 1000000 in
set_option maxRecDepth 100000 in
theorem all_int (v : Value) (w : World) : Calls Try.prog 33 #[.iface 3 v] w fun e w' => e = .returned (.tuple #[.string ByteArray.empty, .int .i64 11]) ∧ w' = w := by
  have h := isInt v
  go_enter Try.func33, Try.ntmps33
  go_wp2_with fail
  go_ret2
  exact ⟨rfl, rfl⟩
set_option maxHeartbeats 1000000 in
set_option maxRecDepth 100000 in
theorem all_str (v : Value) (w : World) : Calls Try.prog 33 #[.iface 9 v] w fun e w' => e = .returned (.tuple #[.string ByteArray.empty, .int .i64 11]) ∧ w' = w := by
  have h := isStr v
  go_enter Try.func33, Try.ntmps33
  go_wp2_with fail
  go_ret2
  exact ⟨rfl, rfl⟩
set_option maxHeartbeats 1000000 in
set_option maxRecDepth 100000 in
theorem all_none (w : World) : Calls Try.prog 33 #[.nilIface] w fun e w' => e = .returned (.tuple #[.string ByteArray.empty, .int .i64 11]) ∧ w' = w := by
  have h := nilSource
  go_enter Try.func33, Try.ntmps33
  go_wp2_with fail
  go_ret2
  exact ⟨rfl, rfl⟩
set_option maxHeartbeats 1000000 in
set_option maxRecDepth 100000 in
theorem sz_none (w : World) : Calls Try.prog 31 #[.nilIface] w fun e w' => e = .returned (.tuple #[.int .i64 0, .bool false]) ∧ w' = w := by
  have h := nilSized
  go_enter Try.func31, Try.ntmps31
  go_wp2_with fail
  go_ret2
  exact ⟨rfl, rfl⟩
set_option maxHeartbeats 1000000 in
set_option maxRecDepth 100000 in
theorem sz_str (v : Value) (w : World) : Calls Try.prog 31 #[.iface 9 v] w fun e w' => e = .returned (.tuple #[.int .i64 0, .bool false]) ∧ w' = w := by
  have h := sizedStr v
  go_enter Try.func31, Try.ntmps31
  go_wp2_with fail
  go_ret2
  exact ⟨rfl, rfl⟩
set_option maxHeartbeats 1000000 in
set_option maxRecDepth 100000 in
theorem sz_plain (v : Value) (w : World) : Calls Try.prog 31 #[.iface PP v] w fun e w' => e = .returned (.tuple #[.int .i64 0, .bool false]) ∧ w' = w := by
  have h := sizedPlain v
  go_enter Try.func31, Try.ntmps31
  go_wp2_with fail
  go_ret2
  exact ⟨rfl, rfl⟩
set_option maxHeartbeats 1000000 in
set_option maxRecDepth 100000 in
theorem sz_scr (B b : Nat) (ob : Option Nat) (l : List ByteArray) (i : Nat) (fail : Int) (w : World) (hs : Scr B b ob l i fail w) (hbig : l.length ≤ 1000000) (hsz : size fail 0 l ≤ 1000000) :
    Calls Try.prog 31 #[.iface PC (.pointer (some ⟨b, 0, none⟩))] w fun e w' => e = .returned (.tuple #[.int .i64 (size fail 0 l), .bool true]) ∧ Fr (fun _ => False) w w' := by
  have h := sizedScr (.pointer (some ⟨b, 0, none⟩))
  have hm := fun w => mSize ⟨b, 0, none⟩ w _ rfl
  go_enter Try.func31, Try.ntmps31
  go_wp2_with fail
  refine (size_c _ _ _ _ _ _ _ hs hbig hsz).mono ?_
  rintro e w1 ⟨rfl, hf⟩
  have HF := Lib.hid hf
  clear hf
  go_wp2_with fail
  go_ret2
  exact ⟨rfl, HF.out⟩
set_option maxHeartbeats 1000000 in
set_option maxRecDepth 100000 in
theorem must_plain (v : Value) (w : World) : Calls Try.prog 36 #[.iface PP v] w fun e w' => e = .returned (.iface PP v) ∧ w' = w := by
  have h := mustPlain v
  go_enter Try.func36, Try.ntmps36
  go_wp2_with fail
  go_ret
  exact ⟨rfl, rfl⟩
end Go.Proofs.Ytmldibphbilghaa.Src
