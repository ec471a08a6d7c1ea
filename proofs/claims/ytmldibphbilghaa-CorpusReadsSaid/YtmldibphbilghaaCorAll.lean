/- Layer 5 (corpus), its texts as one. -/
import Derived.Test.YtmldibphbilghaaSrcAll
import Derived.Test.YtmldibphbilghaaPr46
namespace Go.Proofs.Ytmldibphbilghaa.Cor
open Go.RowKit Go.Proofs.Ytmldibphbilghaa.Bs Go.Proofs.YtmldibphbilghaaW.PrintWords
set_option linter.unusedVariables false
set_option linter.unusedSimpArgs false
/-- What hand does with the words l, the words ws having been handed: how many, does it go on, which words have been handed. -/
def handL (cont : List ByteArray → ByteArray → Bool) : List ByteArray → List ByteArray → Nat → Nat × Bool × List ByteArray
  | ws, [], i => (i, true, ws)
  | ws, x :: r, i => if cont ws x = true then handL cont (ws ++ [x]) r (i + 1) else (i + 1, false, ws ++ [x])
/-- A function value that is handed words: its state, where that lies (M), and its call. -/
structure CB (nf : Nat) (caps : Array Value) (cont : List ByteArray → ByteArray → Bool) where
  St : List ByteArray → (Nat → Prop) → World → Prop
  keep : ∀ {ws M W W' S}, St ws M W → Fr S W W' → (∀ k, M k → ¬ S k) → St ws M W'
  lt : ∀ {ws M W}, St ws M W → ∀ k, M k → k < W.heap.size
  enter : ∀ args W, (callFunc nf args).run Try.prog W = .ok (.enter nf args) W
  call : ∀ ws M W x, St ws M W → ws.length ≤ 1000000 → Calls Try.prog nf (#[.string x] ++ caps) W fun e W' => e = .returned (.bool (cont ws x)) ∧ ∃ M', St (ws ++ [x]) M' W' ∧ Fr M W W' ∧ ∀ k, M' k → M k ∨ W.heap.size ≤ k
theorem func_ne (nf : Nat) (caps : Array Value) (W : World) : (binOp .neq 61 (.func (.func nf) #[] caps) .nilFunc).run Try.prog W = .ok (.bool true) W := by kernel_rfl
theorem func_nil (W : World) : (binOp .neq 61 .nilFunc .nilFunc).run Try.prog W = .ok (.bool false) W := by kernel_rfl
set_option maxHeartbeats 1000000 in
set_option maxRecDepth 100000 in
theorem hand_cb {nf : Nat} {caps : Array Value} {cont : List ByteArray → ByteArray → Bool} (F : CB nf caps cont) (A : Option Addr) (c : Nat) (l : List ByteArray) (ws : List ByteArray) (M : Nat → Prop) (w : World)
    (hl : Kd.C Kd.string w A l.length l) (hst : F.St ws M w) (hM : ∀ ad, A = some ad → ¬ M ad.block) (hbig : ws.length + l.length ≤ 1000000) :
    Calls Try.prog 49 #[.slice A l.length c, .func (.func nf) #[] caps] w fun e w' => e = .returned (.tuple #[.int .i64 (handL cont ws l 0).1, .bool (handL cont ws l 0).2.1]) ∧ ∃ M', F.St (handL cont ws l 0).2.2 M' w' ∧ Fr M w w' ∧ ∀ k, M' k → M k ∨ w.heap.size ≤ k := by
  have HL := Lib.hid hl
  have HST := Lib.hid hst
  have hne := func_ne nf caps
  have hen := F.enter
  clear hl hst
  go_enter Try.func49, Try.ntmps49
  go_wp2_with fail
  go_loopw [10] (fun v10 wr => ∃ (i : Nat) (ws' : List ByteArray) (M' : Nat → Prop), i ≤ l.length ∧ v10 = .int .i64 i ∧ handL cont ws' (l.drop i) i = handL cont ws l 0 ∧ ws'.length = ws.length + i ∧ F.St ws' M' wr ∧ Fr M w wr ∧ ∀ k, M' k → M k ∨ w.heap.size ≤ k) (fun v10 _ => l.length - (intOf v10).toNat)
  case atStart => exact ⟨0, ws, M, Nat.zero_le _, rfl, rfl, rfl, HST.out, Fr.refl _ _, fun k hk => .inl hk⟩
  case round =>
    obtain ⟨i, ws', M', hi, rfl, hh, hwl, hst, hfr, hm⟩ := hrel
    have HH := Lib.hid hh
    have HS := Lib.hid hst
    have HF := Lib.hid hfr
    have HM := Lib.hid hm
    clear hh hst hfr hm
    by_cases hlt : i < l.length
    · have hd : l.drop i = l[i] :: l.drop (i + 1) := List.drop_eq_getElem_cons hlt
      obtain ⟨g, o, rfl, hc⟩ := Src.row_cells HL.out (by omega)
      have hc1 := HF.out.cell (hc i hlt) (hM ⟨g, o, none⟩ rfl)
      rw [show l.getD i ByteArray.empty = l[i] by simp [List.getD, hlt]] at hc1
      have HD := Lib.hid hd
      have HWL := Lib.hid hwl
      clear hc hd hwl
      generalize hpc : l[i] = pc at *
      have hcl := F.call ws' M' wr pc HS.out (by have := HWL.out; omega)
      have HCL := Lib.hid hcl
      clear hcl
      cases hct : cont ws' pc with
      | true =>
        rw [hct] at HCL
        go_wp2_with fail
        refine HCL.out.mono ?_
        rintro e w1 ⟨rfl, M1, hs1, hf1, hm1⟩
        have HS1 := Lib.hid hs1
        have HF1 := Lib.hid (HF.out.trans hf1 (fun k hk => HM.out k hk))
        have HM1 := Lib.hid (show ∀ k, M1 k → M k ∨ w.heap.size ≤ k from fun k hk => (hm1 k hk).elim (fun h => HM.out k h) (fun h => .inr (Nat.le_trans HF.out.size h)))
        clear hs1 hf1 hm1 HCL
        go_wp2_with fail
        go_roundw
        case rel => exact ⟨i + 1, ws' ++ [pc], M1, by omega, by go_num, by rw [← HH.out, HD.out, handL, if_pos hct], by rw [List.length_append, HWL.out]; simp; omega, HS1.out, HF1.out, HM1.out⟩
        case measure => simp [intOf]; omega
      | false =>
        rw [hct] at HCL
        go_wp2_with fail
        refine HCL.out.mono ?_
        rintro e w1 ⟨rfl, M1, hs1, hf1, hm1⟩
        have HS1 := Lib.hid hs1
        have HF1 := Lib.hid (HF.out.trans hf1 (fun k hk => HM.out k hk))
        have HM1 := Lib.hid (show ∀ k, M1 k → M k ∨ w.heap.size ≤ k from fun k hk => (hm1 k hk).elim (fun h => HM.out k h) (fun h => .inr (Nat.le_trans HF.out.size h)))
        clear hs1 hf1 hm1 HCL
        go_wp2_with fail
        go_ret2
        have hx : handL cont ws l 0 = (i + 1, false, ws' ++ [pc]) := by rw [← HH.out, HD.out, handL, if_neg (by rw [hct]; simp)]
        rw [hx]
        exact ⟨rfl, M1, HS1.out, HF1.out, HM1.out⟩
    · have hil : i = l.length := by omega
      have hx : handL cont ws l 0 = (l.length, true, ws') := by rw [← HH.out, hil, List.drop_length, handL]
      have HX := Lib.hid hx
      clear hx hil
      go_wp2_with fail
      go_ret2
      rw [HX.out]
      exact ⟨rfl, M', HS.out, HF.out, HM.out⟩
end Go.Proofs.Ytmldibphbilghaa.Cor

namespace Go.Proofs.Ytmldibphbilghaa.Cor
open Go.RowKit Go.Proofs.Ytmldibphbilghaa.Bs Go.Proofs.YtmldibphbilghaaW.PrintWords
set_option linter.unusedVariables false
set_option linter.unusedSimpArgs false
/-- A function value, or none, that words are handed to. -/
structure HD (V : Value) (cont : List ByteArray → ByteArray → Bool) where
  St : List ByteArray → (Nat → Prop) → World → Prop
  keep : ∀ {ws M W W' S}, St ws M W → Fr S W W' → (∀ k, M k → ¬ S k) → St ws M W'
  lt : ∀ {ws M W}, St ws M W → ∀ k, M k → k < W.heap.size
  hand : ∀ (A : Option Addr) (c : Nat) (l : List ByteArray) (ws : List ByteArray) (M : Nat → Prop) (w : World), Kd.C Kd.string w A l.length l → St ws M w → (∀ ad, A = some ad → ¬ M ad.block) → ws.length + l.length ≤ 1000000 →
    Calls Try.prog 49 #[.slice A l.length c, V] w fun e w' => e = .returned (.tuple #[.int .i64 (handL cont ws l 0).1, .bool (handL cont ws l 0).2.1]) ∧ ∃ M', St (handL cont ws l 0).2.2 M' w' ∧ Fr M w w' ∧ ∀ k, M' k → M k ∨ w.heap.size ≤ k
def HD.ofCB {nf : Nat} {caps : Array Value} {cont : List ByteArray → ByteArray → Bool} (F : CB nf caps cont) : HD (.func (.func nf) #[] caps) cont where
  St := F.St
  keep := F.keep
  lt := F.lt
  hand := fun A c l ws M w hl hs hM hb => hand_cb F A c l ws M w hl hs hM hb
theorem hand_all : ∀ (l ws : List ByteArray) (i : Nat), handL (fun _ _ => true) ws l i = (i + l.length, true, ws ++ l)
  | [], ws, i => by simp [handL]
  | x :: r, ws, i => by rw [handL, if_pos rfl, hand_all r]; simp; omega
set_option maxHeartbeats 1000000 in
set_option maxRecDepth 100000 in
theorem hand_nil (A : Option Addr) (c : Nat) (l : List ByteArray) (w : World) (hl : Kd.C Kd.string w A l.length l) (hbig : l.length ≤ 1000000) :
    Calls Try.prog 49 #[.slice A l.length c, .nilFunc] w fun e w' => e = .returned (.tuple #[.int .i64 l.length, .bool true]) ∧ w' = w := by
  have HL := Lib.hid hl
  have hne := func_nil
  clear hl
  go_enter Try.func49, Try.ntmps49
  go_wp2_with fail
  go_loopw [10] (fun v10 wr => wr = w ∧ ∃ (i : Nat), i ≤ l.length ∧ v10 = .int .i64 i) (fun v10 _ => l.length - (intOf v10).toNat)
  case atStart => exact ⟨rfl, 0, Nat.zero_le _, rfl⟩
  case round =>
    obtain ⟨rfl, i, hi, rfl⟩ := hrel
    by_cases hlt : i < l.length
    · obtain ⟨g, o, rfl, hc⟩ := Src.row_cells HL.out (by omega)
      have hc1 := hc i hlt
      clear hc
      go_wp2_with fail
      go_roundw
      case rel => exact ⟨trivial, i + 1, by omega, by go_num⟩
      case measure => simp [intOf]; omega
    · go_wp2_with fail
      go_ret2
      exact ⟨rfl, rfl⟩
def HD.none : HD .nilFunc (fun _ _ => true) where
  St := fun _ M _ => ∀ k, ¬ M k
  keep := fun h _ _ => h
  lt := fun h k hk => (h k hk).elim
  hand := fun A c l ws M w hl hs hM hb => by
    refine (hand_nil A c l w hl (by omega)).mono ?_
    rintro e w' ⟨rfl, rfl⟩
    rw [hand_all]
    refine ⟨by rw [Nat.zero_add], M, hs, Fr.refl _ _, fun k hk => .inl hk⟩
/-- Something that tells the pieces r, then the error e; where it lies: M. -/
structure SRC (T : TypeId) (p : Value) where
  fn : Nat
  is : ∀ (xT : TypeId) (w : World), (Instr.typeAssert (.iface T p) xT 59 true).run Try.prog w = .ok (.tuple #[.iface T p, .bool true]) w
  meth : ∀ (w : World), (method 207 T p "Next").run Try.prog w = .ok (fn, p) w
  enter : ∀ args W, (callFunc fn args).run Try.prog W = .ok (.enter fn args) W
  St : List ByteArray → Int → (Nat → Prop) → World → Prop
  keep : ∀ {r e M W W' S}, St r e M W → Fr S W W' → (∀ k, M k → ¬ S k) → St r e M W'
  lt : ∀ {r e M W}, St r e M W → ∀ k, M k → k < W.heap.size
  more : ∀ (s : ByteArray) (r : List ByteArray) (e : Int) (M : Nat → Prop) (W : World), St (s :: r) e M W → Calls Try.prog fn #[p] W fun x W' =>
    ∃ g cp, x = .returned (.tuple #[.slice (some ⟨g, 0, none⟩) s.size cp, .bool true, .int .i64 0]) ∧ Lib.Bytes W' g 0 s ∧ W.heap.size ≤ g ∧ g < W'.heap.size ∧ St r e M W' ∧ Fr M W W'
  last : ∀ (e : Int) (M : Nat → Prop) (W : World), St [] e M W → Calls Try.prog fn #[p] W fun x W' => x = .returned (.tuple #[.slice none 0 0, .bool false, .int .i64 e]) ∧ St [] e M W' ∧ Fr M W W'
/-- What Each does: the open word, the words that have been handed, how many. -/
def eachL (lim : Int) (cont : List ByteArray → ByteArray → Bool) (err : Int) : List UInt8 → List ByteArray → Nat → List ByteArray → Nat × Int × List ByteArray
  | op, ws, many, [] => if err = 0 then (many + (handL cont ws ((Spl.endL op).map Pr.mkB) 0).1, 0, (handL cont ws ((Spl.endL op).map Pr.mkB) 0).2.2) else (many, err, ws)
  | op, ws, many, s :: r =>
    if (handL cont ws ((Spl.feedL lim op s.data.toList []).1.map Pr.mkB) 0).2.1 = true then
      (if (Spl.feedL lim op s.data.toList []).2.1 = true then eachL lim cont err (Spl.feedL lim op s.data.toList []).2.2 (handL cont ws ((Spl.feedL lim op s.data.toList []).1.map Pr.mkB) 0).2.2 (many + (handL cont ws ((Spl.feedL lim op s.data.toList []).1.map Pr.mkB) 0).1) r
      else (many + (handL cont ws ((Spl.feedL lim op s.data.toList []).1.map Pr.mkB) 0).1, 4, (handL cont ws ((Spl.feedL lim op s.data.toList []).1.map Pr.mkB) 0).2.2))
    else (many + (handL cont ws ((Spl.feedL lim op s.data.toList []).1.map Pr.mkB) 0).1, 0, (handL cont ws ((Spl.feedL lim op s.data.toList []).1.map Pr.mkB) 0).2.2)
theorem hand_len (cont : List ByteArray → ByteArray → Bool) : ∀ (l ws : List ByteArray) (i : Nat), (handL cont ws l i).1 ≤ i + l.length ∧ (handL cont ws l i).2.2.length ≤ ws.length + l.length
  | [], ws, i => by simp [handL]
  | x :: r, ws, i => by
    rw [handL]
    split
    · have := hand_len cont r (ws ++ [x]) (i + 1)
      simp at this ⊢
      omega
    · simp
/-- A row of words that Feed or End hands back. -/
theorem words_row {w : World} {B : Nat} {v : Value} {L : List (List UInt8)} (Y : List ByteArray) (hY : Y = L.map Pr.mkB) (ho : w.ownsRow B Spl.TX 1 v L.length (Spl.strs L)) :
    ∃ A c, v = .slice A Y.length c ∧ Kd.C Kd.string w A Y.length Y ∧ ∀ ad, A = some ad → B ≤ ad.block := by
  subst hY
  have hb : ∀ A c, v = .slice A L.length c → ∀ ad, A = some ad → B ≤ ad.block := by
    intro A c hv ad had
    rcases ho.2 with ⟨e, _⟩ | ⟨g, cp, cur, e, hg, _⟩
    · rw [hv, had] at e; cases e
    · rw [hv, had] at e; cases e; exact hg
  rw [Pr.strs_encs, ← List.length_map (f := Pr.mkB)] at ho
  have hR : Kd.R Kd.string 9 w B (fun _ => True) v (L.map Pr.mkB) := Kd.R_of_own ho (fun _ _ => trivial)
  obtain ⟨A, c, rfl, _, hC⟩ := Kd.R_reads hR
  exact ⟨A, c, rfl, hC, hb A c (by rw [List.length_map])⟩
theorem feed_len2 (lim : Int) (xs op : List UInt8) : (Spl.feedL lim op xs []).1.length ≤ xs.length ∧ (Spl.feedL lim op xs []).2.2.length ≤ op.length + xs.length := by
  have := Pr.feed_len lim xs op []
  simpa using this
set_option maxHeartbeats 4000000 in
set_option maxRecDepth 100000 in
theorem each_c {T : TypeId} {p : Value} {V : Value} {cont : List ByteArray → ByteArray → Bool} (R : SRC T p) (H : HD V cont) (r : List ByteArray) (err : Int) (lim : Int) (ws : List ByteArray) (MS M0 : Nat → Prop) (w : World)
    (hs : R.St r err MS w) (hh : H.St ws M0 w) (hd : ∀ k, MS k → ¬ M0 k) (h1 : 1 ≤ lim) (h2 : lim ≤ 65536) (hbig : ws.length + 2 * (Pure.wholeL r).length ≤ 100000) :
    Calls Try.prog 41 #[.iface T p, .int .i64 lim, V] w fun e w' => e = .returned (.tuple #[.int .i64 (eachL lim cont err [] ws 0 r).1, .int .i64 (eachL lim cont err [] ws 0 r).2.1]) ∧
      ∃ M', H.St (eachL lim cont err [] ws 0 r).2.2 M' w' ∧ Fr (fun k => MS k ∨ M0 k) w w' ∧ ∀ k, M' k → M0 k ∨ w.heap.size ≤ k := by
  have HS := Lib.hid hs
  have HH := Lib.hid hh
  have his := R.is
  have hme := R.meth
  have hen := R.enter
  have hml : max lim 1 = lim := by omega
  have HML := Lib.hid hml
  have HAT := Lib.hid (Spl.At.fresh w w.heap.size (Nat.le_refl _) (max lim 1))
  clear hs hh hml
  go_enter Try.func41, Try.ntmps41
  go_wp2_with fail
  refine (Spl.new_c lim _).mono ?_
  rintro e w1 ⟨rfl, rfl⟩
  go_wp2_with fail
  rw [HML.out] at HAT ⊢
  have HFR := Lib.hid (show Fr (fun k => MS k ∨ M0 k) w (w.alloc (.cells #[.int .i64 lim, .slice none 0 0, .bool false] Spl.TS)) from (Fr.refl _ w).alloc _)
  have HS1 := Lib.hid (R.keep HS.out ((Fr.refl (fun _ => False) w).alloc (.cells #[.int .i64 lim, .slice none 0 0, .bool false] Spl.TS)) (fun _ _ h => h))
  have HH1 := Lib.hid (H.keep HH.out ((Fr.refl (fun _ => False) w).alloc (.cells #[.int .i64 lim, .slice none 0 0, .bool false] Spl.TS)) (fun _ _ h => h))
  have HSL := Lib.hid (R.lt HS.out)
  have HHL := Lib.hid (H.lt HH.out)
  clear HS HH HML
  go_loopg [11] r.length (fun kq v11 wr => ∃ (r' : List ByteArray) (op : List UInt8) (ws' : List ByteArray) (many : Nat) (ob : Option Nat) (M : Nat → Prop), kq = r'.length ∧ v11 = .int .i64 many ∧ R.St r' err MS wr ∧ Spl.At w.heap.size w.heap.size ob lim op false wr ∧ H.St ws' M wr ∧
    Fr (fun k => MS k ∨ M0 k) w wr ∧ (∀ k, M k → M0 k ∨ w.heap.size ≤ k) ∧ (∀ k, M k → k ≠ w.heap.size ∧ ob ≠ some k) ∧ eachL lim cont err op ws' many r' = eachL lim cont err [] ws 0 r ∧ ws'.length + op.length + 2 * (Pure.wholeL r').length ≤ 100000 ∧ many + (Pure.wholeL r').length ≤ 100000)
  case atStart => exact ⟨r, [], ws, 0, none, M0, rfl, rfl, HS1.out, HAT.out, HH1.out, HFR.out, fun k hk => .inl hk, fun k hk => ⟨fun e => by have := HHL.out k hk; omega, by simp⟩, rfl, by simp; omega, by omega⟩
  case round =>
    obtain ⟨r', op, ws', many, ob, M, hkq, rfl, hs, hat, hh, hfr, hm1, hm2, heq, hb1, hb2⟩ := hrel
    have HS := Lib.hid hs
    have HAT2 := Lib.hid hat
    have HH := Lib.hid hh
    have HF := Lib.hid hfr
    have HM1 := Lib.hid hm1
    have HM2 := Lib.hid hm2
    have HEQ := Lib.hid heq
    have HKQ := Lib.hid hkq
    have HB1 := Lib.hid hb1
    have HB2 := Lib.hid hb2
    clear hs hat hh hfr hm1 hm2 heq hkq hb1 hb2 HAT HFR HS1 HH1
    cases r' with
    | nil =>
      have HL := Lib.hid (R.last err MS wr HS.out)
      go_wp2_with fail
      refine HL.out.mono ?_
      rintro e w2 ⟨rfl, hs2, hf2⟩
      have HF2 := Lib.hid (HF.out.trans hf2 (fun k hk => .inl (.inl hk)))
      have hdm : ∀ k, M k → ¬ MS k := fun k hk h => (HM1.out k hk).elim (fun h0 => hd k h h0) (fun h0 => by have := HSL.out k h; omega)
      have HH2 := Lib.hid (H.keep HH.out hf2 hdm)
      have hat2 := HAT2.out.fr hf2 (fun h => by have := HSL.out _ h; omega) (fun g hg h => by have := (HAT2.out.row hg).1; have := HSL.out _ h; omega)
      have HAT3 := Lib.hid hat2
      clear hs2 hf2 hat2 HL
      by_cases he : err = 0
      · subst he
        have hfc := Spl.feed_c w.heap.size w.heap.size ob lim op none 0 [] w2 HAT3.out (fun h => absurd h (by simp)) HF2.out.size (by have := HB1.out; simp; omega)
        rw [show Spl.feedL lim op [] [] = ([], true, op) from rfl] at hfc
        have HFC := Lib.hid hfc
        clear hfc
        go_wp2_with fail
        refine HFC.out.mono ?_
        rintro e w3 ⟨v3, ob3, rfl, _, hat3, hmv3, hf3⟩
        have HF3 := Lib.hid (HF2.out.trans hf3 (fun k hk => .inr (hk.elim (fun e => by omega) (fun e => (HAT3.out.row e).1))))
        have HH3 := Lib.hid (H.keep HH2.out hf3 (fun k hk h => h.elim (fun e => (HM2.out k hk).1 e) (fun e => (HM2.out k hk).2 e)))
        have HM3 := Lib.hid (show ∀ k, M k → k ≠ w.heap.size ∧ ob3 ≠ some k from fun k hk => ⟨(HM2.out k hk).1, fun e => by
          rcases hmv3 with h | h | ⟨g, h, hg⟩
          · rw [h] at e; cases e
          · rw [h] at e; exact (HM2.out k hk).2 e
          · rw [h] at e; injection e with e; have := H.lt HH2.out k hk; omega⟩)
        have HAT4 := Lib.hid hat3
        clear hat3 hmv3 hf3 HFC HAT3 HAT2 HM2
        go_wp2_with fail
        refine (Spl.end_c _ _ _ _ _ _ _ HAT4.out HF3.out.size (by have := HB1.out; omega)).mono ?_
        rintro e w4 ⟨v4, rfl, hown4, hat4, hf4⟩
        obtain ⟨Y, hY⟩ : ∃ Y, Y = (Spl.endL op).map Pr.mkB := ⟨_, rfl⟩
        obtain ⟨A4, c4, rfl, hC4, hA4⟩ := words_row Y hY hown4
        have hYl : Y.length ≤ 1 := by rw [hY, List.length_map]; unfold Spl.endL; split <;> simp
        have HF4 := Lib.hid (HF3.out.trans hf4 (fun k hk => .inr (by rw [hk]; exact Nat.le_refl _)))
        have hh4 := H.keep HH3.out hf4 (fun k hk h => (HM3.out k hk).1 h)
        have hhd := H.hand A4 c4 Y ws' M w4 hC4 hh4 (fun ad had hk => by have := hA4 ad had; have := H.lt HH3.out _ hk; omega) (by have := HB1.out; omega)
        have hq := HEQ.out
        rw [eachL, if_pos rfl, ← hY] at hq
        have hl4 := hand_len cont Y ws' 0
        have HSZ := Lib.hid HF4.out.size
        generalize handL cont ws' Y 0 = q at hhd hq hl4
        obtain ⟨n, on, ws2⟩ := q
        have HHD := Lib.hid hhd
        have HQ := Lib.hid hq
        have HL4 := Lib.hid hl4
        have hn1 : n ≤ 1 := by have := hl4.1; omega
        have hb2 := HB2.out
        clear hown4 hat4 hf4 hC4 hA4 hh4 hhd hq hl4 hY HAT4
        go_wp2_with fail
        refine HHD.out.mono ?_
        rintro e w5 ⟨rfl, M5, hs5, hf5, hm5⟩
        have HS5 := Lib.hid hs5
        have HF5 := Lib.hid (HF4.out.trans hf5 (fun k hk => (HM1.out k hk).elim (fun h => .inl (.inr h)) (fun h => .inr h)))
        have HM5 := Lib.hid (show ∀ k, M5 k → M0 k ∨ w.heap.size ≤ k from fun k hk => (hm5 k hk).elim (fun h => HM1.out k h) (fun h => .inr (Nat.le_trans HSZ.out h)))
        clear hs5 hf5 hm5 HHD
        go_wp2_with fail
        all_goals go_ret2
        all_goals rw [← HQ.out]
        all_goals exact ⟨by simp, M5, HS5.out, HF5.out, HM5.out⟩
      · go_wp2_with fail
        go_ret2
        have hx := HEQ.out
        rw [eachL, if_neg he] at hx
        rw [← hx]
        exact ⟨rfl, M, HH2.out, HF2.out, HM1.out⟩
    | cons s r' =>
      have hwl : (Pure.wholeL (s :: r')).length = s.size + (Pure.wholeL r').length := by
        have : s.data.toList.length = s.size := by simp
        simp only [Pure.wholeL, List.flatMap_cons, List.length_append]
        omega
      have hb1 := HB1.out
      have hb2 := HB2.out
      rw [hwl] at hb1 hb2
      have HL := Lib.hid (R.more s r' err MS wr HS.out)
      clear HB1 HB2
      go_wp2_with fail
      refine HL.out.mono ?_
      rintro e w2 ⟨g, cp, rfl, hby, hg1, hg2, hs2, hf2⟩
      have HF2 := Lib.hid (HF.out.trans hf2 (fun k hk => .inl (.inl hk)))
      have hdm : ∀ k, M k → ¬ MS k := fun k hk h => (HM1.out k hk).elim (fun h0 => hd k h h0) (fun h0 => by have := HSL.out k h; omega)
      have HH2 := Lib.hid (H.keep HH.out hf2 hdm)
      have hat2 := HAT2.out.fr hf2 (fun h => by have := HSL.out _ h; omega) (fun g hg h => by have := (HAT2.out.row hg).1; have := HSL.out _ h; omega)
      have HAT3 := Lib.hid hat2
      have HS2 := Lib.hid hs2
      have hsl : s.data.toList.length = s.size := by simp
      have hpc : Spl.Piece w2 w.heap.size ob (some ⟨g, 0, none⟩) s.data.toList := by
        intro _
        refine ⟨g, 0, rfl, by have := HAT2.out.lt; omega, fun e => by have := (HAT2.out.row e).2.1; omega, fun j hj => ?_⟩
        rw [hsl] at hj
        rw [hby j hj]
        simp [List.getD, hj]
        rfl
      have hfc := Spl.feed_c w.heap.size w.heap.size ob lim op (some ⟨g, 0, none⟩) cp s.data.toList w2 HAT3.out hpc HF2.out.size (by rw [hsl]; omega)
      have hfl := feed_len2 lim s.data.toList op
      have hq := HEQ.out
      rw [eachL] at hq
      rw [hsl] at hfc hfl
      generalize Spl.feedL lim op s.data.toList [] = G at hfc hq hfl
      obtain ⟨L, ok, op2⟩ := G
      obtain ⟨Y, hY⟩ : ∃ Y, Y = L.map Pr.mkB := ⟨_, rfl⟩
      have hYl : Y.length = L.length := by rw [hY, List.length_map]
      simp only [← hY] at hq
      have hl4 := hand_len cont Y ws' 0
      have HFC := Lib.hid hfc
      have HW2 := Lib.hid hg2
      clear hs2 hf2 hat2 hpc hfc hby hg1 hg2 HL HEQ
      have HQ := Lib.hid hq
      clear hq
      go_wp2_with fail
      refine HFC.out.mono ?_
      rintro e w3 ⟨v3, ob3, rfl, hown3, hat3, hmv3, hf3⟩
      obtain ⟨A3, c3, rfl, hC3, hA3⟩ := words_row Y hY hown3
      have HF3 := Lib.hid (HF2.out.trans hf3 (fun k hk => .inr (hk.elim (fun e => by omega) (fun e => (HAT3.out.row e).1))))
      have hh3 := H.keep HH2.out hf3 (fun k hk h => h.elim (fun e => (HM2.out k hk).1 e) (fun e => (HM2.out k hk).2 e))
      have HM3 := Lib.hid (show ∀ k, M k → k ≠ w.heap.size ∧ ob3 ≠ some k from fun k hk => ⟨(HM2.out k hk).1, fun e => by
          rcases hmv3 with h | h | ⟨g, h, hg⟩
          · rw [h] at e; cases e
          · rw [h] at e; exact (HM2.out k hk).2 e
          · rw [h] at e; injection e with e; have := H.lt HH2.out k hk; omega⟩)
      have hss : R.St r' err MS w3 := R.keep HS2.out hf3 (fun k hk h => h.elim (fun e => by have := HSL.out k hk; omega) (fun e => by have := (HAT3.out.row e).1; have := HSL.out k hk; omega))
      have HS3 := Lib.hid hss
      have HAT4 := Lib.hid hat3
      have hhd := H.hand A3 c3 Y ws' M w3 hC3 hh3 (fun ad had hk => by have := hA3 ad had; have := H.lt HH2.out _ hk; omega) (by omega)
      have HML3 := Lib.hid (H.lt hh3)
      generalize handL cont ws' Y 0 = q at hhd HQ hl4
      obtain ⟨n, on, ws2⟩ := q
      have HHD := Lib.hid hhd
      have h41 : n ≤ 0 + Y.length := hl4.1
      have h42 : ws2.length ≤ ws'.length + Y.length := hl4.2
      have h43 : L.length ≤ s.size := hfl.1
      have h44 : op2.length ≤ op.length + s.size := hfl.2
      have hn1 : n ≤ L.length := by omega
      have hn2 : ws2.length ≤ ws'.length + L.length := by omega
      have HN := Lib.hid hl4
      have HY := Lib.hid hYl
      have HSZ := Lib.hid HF3.out.size
      clear h41 h42 hfl hown3 hat3 hf3 hC3 hA3 hh3 hhd hl4 hY hmv3 hss HAT2 HM2 HFC HF2 HF hYl
      cases on with
      | false =>
        go_wp2_with fail
        refine HHD.out.mono ?_
        rintro e w5 ⟨rfl, M5, hs5, hf5, hm5⟩
        have HS5 := Lib.hid hs5
        have HF5 := Lib.hid (HF3.out.trans hf5 (fun k hk => (HM1.out k hk).elim (fun h => .inl (.inr h)) (fun h => .inr h)))
        have HM5 := Lib.hid (show ∀ k, M5 k → M0 k ∨ w.heap.size ≤ k from fun k hk => (hm5 k hk).elim (fun h => HM1.out k h) (fun h => .inr (Nat.le_trans HSZ.out h)))
        have hx := HQ.out
        simp only [Bool.false_eq_true, if_false] at hx
        have HX := Lib.hid hx
        clear hs5 hf5 hm5 HHD hx HQ
        go_wp2_with fail
        go_ret2
        rw [← HX.out]
        exact ⟨by simp, M5, HS5.out, HF5.out, HM5.out⟩
      | true =>
        cases ok with
        | false =>
          go_wp2_with fail
          refine HHD.out.mono ?_
          rintro e w5 ⟨rfl, M5, hs5, hf5, hm5⟩
          have HS5 := Lib.hid hs5
          have HF5 := Lib.hid (HF3.out.trans hf5 (fun k hk => (HM1.out k hk).elim (fun h => .inl (.inr h)) (fun h => .inr h)))
          have HM5 := Lib.hid (show ∀ k, M5 k → M0 k ∨ w.heap.size ≤ k from fun k hk => (hm5 k hk).elim (fun h => HM1.out k h) (fun h => .inr (Nat.le_trans HSZ.out h)))
          have hx := HQ.out
          simp only [if_true, Bool.false_eq_true, if_false] at hx
          have HX := Lib.hid hx
          clear hs5 hf5 hm5 HHD hx HQ
          go_wp2_with fail
          go_ret2
          rw [← HX.out]
          exact ⟨by simp, M5, HS5.out, HF5.out, HM5.out⟩
        | true =>
          go_wp2_with fail
          refine HHD.out.mono ?_
          rintro e w5 ⟨rfl, M5, hs5, hf5, hm5⟩
          have HS5 := Lib.hid hs5
          have HF5 := Lib.hid (HF3.out.trans hf5 (fun k hk => (HM1.out k hk).elim (fun h => .inl (.inr h)) (fun h => .inr h)))
          have HM5 := Lib.hid (show ∀ k, M5 k → M0 k ∨ w.heap.size ≤ k from fun k hk => (hm5 k hk).elim (fun h => HM1.out k h) (fun h => .inr (Nat.le_trans HSZ.out h)))
          have HM6 := Lib.hid (show ∀ k, M5 k → k ≠ w.heap.size ∧ ob3 ≠ some k from fun k hk => (hm5 k hk).elim (fun h => HM3.out k h) (fun h => ⟨by have := HAT4.out.lt; omega, fun e => by have := (HAT4.out.row e).2.1; omega⟩))
          have HSS := Lib.hid (R.keep HS3.out hf5 (fun k hk h => (HM1.out k h).elim (fun h0 => hd k hk h0) (fun h0 => by have := HSL.out k hk; omega)))
          have HAT5 := Lib.hid (HAT4.out.fr hf5 (fun h => (HM3.out _ h).1 rfl) (fun g2 hg2 h => (HM3.out _ h).2 hg2))
          have hx := HQ.out
          simp only [if_true] at hx
          have HX := Lib.hid hx
          clear hs5 hf5 hm5 HHD hx HQ HS3 HAT4 HM3
          go_wp2_with fail
          go_roundg r'.length
          case rel => exact ⟨r', op2, ws2, many + n, ob3, M5, rfl, by go_num, HSS.out, HAT5.out, HS5.out, HF5.out, HM5.out, HM6.out, HX.out, by omega, by omega⟩
          case measure =>
            have := HKQ.out
            simp only [List.length_cons] at this
            omega
end Go.Proofs.Ytmldibphbilghaa.Cor

namespace Go.Proofs.Ytmldibphbilghaa.Cor
open Go.RowKit Go.Proofs.Ytmldibphbilghaa.Bs Go.Proofs.YtmldibphbilghaaW.PrintWords
set_option linter.unusedVariables false
set_option linter.unusedSimpArgs false
abbrev TX : Nat := 9
abbrev TR : Nat := 22
theorem enter_of {f : FuncId} {fn : Func} {c : Code} (hf : Try.prog.funcs[f]? = some fn) (hname : (fn.name == "runtime.NumGoroutine") = false) (hb : fn.body = some c) (args : Array Value) (w : World) : (callFunc f args).run Try.prog w = .ok (.enter f args) w := by
  have h1 : fn.name ≠ "runtime.NumGoroutine" := by simpa using hname
  simp [callFunc, hf, h1, hb]
/-- A variable at block bc that holds the words ws; where it lies. -/
def App (bc : Nat) (ws : List ByteArray) (M : Nat → Prop) (w : World) : Prop :=
  ∃ v, w.heap[bc]? = some (.cells #[v] TR (0, 0)) ∧ w.ownsRow 0 TX 1 v ws.length (ws.map Value.string) ∧ ∀ k, M k ↔ (k = bc ∨ v.ownBlock = some k)
theorem App.keep {bc : Nat} {ws : List ByteArray} {M : Nat → Prop} {W W' : World} {S : Nat → Prop} (h : App bc ws M W) (hf : Fr S W W') (hS : ∀ k, M k → ¬ S k) : App bc ws M W' := by
  obtain ⟨v, hb, ho, hM⟩ := h
  exact ⟨v, hf.heap hb (hS _ ((hM _).2 (.inl rfl))), hf.own ho (fun g hg => hS _ ((hM _).2 (.inr hg))), hM⟩
theorem App.lt {bc : Nat} {ws : List ByteArray} {M : Nat → Prop} {W : World} (h : App bc ws M W) (k : Nat) (hk : M k) : k < W.heap.size := by
  obtain ⟨v, hb, ho, hM⟩ := h
  rcases (hM k).1 hk with rfl | h
  · exact Bs.blk_lt hb
  · exact (own_lt ho h).2
theorem App.fresh (w : World) : App w.heap.size [] (fun k => k = w.heap.size) (w.alloc (.cells #[.slice none 0 0] TR)) :=
  ⟨_, heap_new w _, ⟨rfl, .inl ⟨rfl, rfl⟩⟩, fun k => ⟨.inl, fun h => h.elim id (fun h => by cases h)⟩⟩
set_option maxHeartbeats 1000000 in
set_option maxRecDepth 100000 in
theorem app_read (bc : Nat) (ws : List ByteArray) (M : Nat → Prop) (w : World) (x : ByteArray) (h : App bc ws M w) (hl : ws.length ≤ 1000000) :
    Calls Try.prog 48 #[.string x, .pointer (some ⟨bc, 0, none⟩)] w fun e w' => e = .returned (.bool true) ∧ ∃ M', App bc (ws ++ [x]) M' w' ∧ Fr M w w' ∧ ∀ k, M' k → M k ∨ w.heap.size ≤ k := by
  obtain ⟨v, hb, ho, hM⟩ := h
  obtain ⟨i1, hx1, hx0, hxs, hxb⟩ := info_parts Spl.infoX
  have hne := Bs.own_ne ho hb (show TR ≠ TX by decide)
  obtain ⟨A, c, rfl⟩ := Bs.own_slice ho
  have c0 : w.cell? ⟨bc, 0, none⟩ = some (.slice A ws.length c) := by rw [cell_heap hb]; rfl
  have HO := Lib.hid (ho.alloc (.cells #[.string x] TX))
  have HB := Lib.hid hb
  have HM := Lib.hid hM
  have HNE := Lib.hid hne
  clear ho hb hM hne
  go_enter Try.func48, Try.ntmps48
  go_wp2_with (at_builtin; refine wpList_append_own_at _ rfl _ _ 22 rfl 0 TX i1 (.string ByteArray.empty) 1 16 Try.underlying22 hx1 hx0 hxs hxb rfl (by decide) _ _ _ rfl HO.out ⟨w.heap.size, 0, none⟩ 1 1 [.string x] rfl rfl ?c1 ?c2 ?c3 ?c4 ?c5 ?_)
  case c1 =>
    intro j u hj
    match j, hj with
    | 0, hj => simp at hj; subst hj; simp [Addr.add]
  case c2 => intro u hu; simp at hu; subst hu; rfl
  case c3 => unfold maxLen; omega
  case c4 => omega
  case c5 => exact Nat.zero_le _
  intro v' w2 hown' hgrow _ hat
  have hb2 : w2.heap[bc]? = some (.cells #[.slice A ws.length c] TR (0, 0)) := by
    rw [hgrow.block bc (by have := Bs.blk_lt HB.out; simp; omega) (fun e => HNE.out e.symm)]
    exact heap_old HB.out _
  have d1 : w2.cell? ⟨bc, 0, none⟩ = some (.slice A ws.length c) := by rw [cell_heap hb2]; rfl
  have f1 : w2.frozen? ⟨bc, 0, none⟩ = false := free_heap hb2 0
  have hf2 : Fr M w (w2.setCell ⟨bc, 0, none⟩ v') :=
    ((((Fr.refl _ w).alloc _).grown hgrow (fun k hk => .inl ((HM.out k).2 (.inr hk)))).set (.inl ((HM.out bc).2 (.inl rfl))) _)
  have hat2 : App bc (ws ++ [x]) (fun k => k = bc ∨ v'.ownBlock = some k) (w2.setCell ⟨bc, 0, none⟩ v') := by
    refine ⟨v', heap_set hb2 0 v', ?_, fun k => Iff.rfl⟩
    have hne2 := Bs.own_ne hown' hb2 (show TR ≠ TX by decide)
    have := ((Fr.refl (fun k => k = bc) w2).set (p := ⟨bc, 0, none⟩) (.inl rfl) v').own hown' (fun g hg e => hne2 (by rw [hg, e]))
    simpa using this
  have hmv : ∀ k, (k = bc ∨ v'.ownBlock = some k) → M k ∨ w.heap.size ≤ k := by
    intro k hk
    rcases hk with hk | hk
    · exact .inl ((HM.out k).2 (.inl hk))
    · rcases hat with h | h
      · exact .inl ((HM.out k).2 (.inr (by rw [← h]; exact hk)))
      · rw [h] at hk
        injection hk with hk
        exact .inr (by rw [← hk]; simp)
  have HF := Lib.hid hf2
  have HA := Lib.hid hat2
  have HV := Lib.hid hmv
  obtain ⟨A', c', rfl⟩ := Bs.own_slice hown'
  clear hf2 hat2 hat hmv hown' hgrow
  go_wp2
  go_ret
  exact ⟨rfl, _, HA.out, HF.out, HV.out⟩
def cb_read (bc : Nat) : CB 48 #[.pointer (some ⟨bc, 0, none⟩)] (fun _ _ => true) where
  St := App bc
  keep := App.keep
  lt := App.lt
  enter := fun args W => enter_of Try.func48 (by rfl) (by rfl) args W
  call := fun ws M W x h hl => app_read bc ws M W x h hl
set_option maxHeartbeats 1000000 in
set_option maxRecDepth 100000 in
theorem app_got (bc : Nat) (ws : List ByteArray) (M : Nat → Prop) (w : World) (x : ByteArray) (h : App bc ws M w) (hl : ws.length ≤ 1000000) :
    Calls Try.prog 42 #[.string x, .pointer (some ⟨bc, 0, none⟩)] w fun e w' => e = .returned (.bool true) ∧ ∃ M', App bc (ws ++ [x]) M' w' ∧ Fr M w w' ∧ ∀ k, M' k → M k ∨ w.heap.size ≤ k := by
  obtain ⟨v, hb, ho, hM⟩ := h
  obtain ⟨i1, hx1, hx0, hxs, hxb⟩ := info_parts Spl.infoX
  have hne := Bs.own_ne ho hb (show TR ≠ TX by decide)
  obtain ⟨A, c, rfl⟩ := Bs.own_slice ho
  have c0 : w.cell? ⟨bc, 0, none⟩ = some (.slice A ws.length c) := by rw [cell_heap hb]; rfl
  have HO := Lib.hid (ho.alloc (.cells #[.string x] TX))
  have HB := Lib.hid hb
  have HM := Lib.hid hM
  have HNE := Lib.hid hne
  clear ho hb hM hne
  go_enter Try.func42, Try.ntmps42
  go_wp2_with (at_builtin; refine wpList_append_own_at _ rfl _ _ 22 rfl 0 TX i1 (.string ByteArray.empty) 1 16 Try.underlying22 hx1 hx0 hxs hxb rfl (by decide) _ _ _ rfl HO.out ⟨w.heap.size, 0, none⟩ 1 1 [.string x] rfl rfl ?c1 ?c2 ?c3 ?c4 ?c5 ?_)
  case c1 =>
    intro j u hj
    match j, hj with
    | 0, hj => simp at hj; subst hj; simp [Addr.add]
  case c2 => intro u hu; simp at hu; subst hu; rfl
  case c3 => unfold maxLen; omega
  case c4 => omega
  case c5 => exact Nat.zero_le _
  intro v' w2 hown' hgrow _ hat
  have hb2 : w2.heap[bc]? = some (.cells #[.slice A ws.length c] TR (0, 0)) := by
    rw [hgrow.block bc (by have := Bs.blk_lt HB.out; simp; omega) (fun e => HNE.out e.symm)]
    exact heap_old HB.out _
  have d1 : w2.cell? ⟨bc, 0, none⟩ = some (.slice A ws.length c) := by rw [cell_heap hb2]; rfl
  have f1 : w2.frozen? ⟨bc, 0, none⟩ = false := free_heap hb2 0
  have hf2 : Fr M w (w2.setCell ⟨bc, 0, none⟩ v') :=
    ((((Fr.refl _ w).alloc _).grown hgrow (fun k hk => .inl ((HM.out k).2 (.inr hk)))).set (.inl ((HM.out bc).2 (.inl rfl))) _)
  have hat2 : App bc (ws ++ [x]) (fun k => k = bc ∨ v'.ownBlock = some k) (w2.setCell ⟨bc, 0, none⟩ v') := by
    refine ⟨v', heap_set hb2 0 v', ?_, fun k => Iff.rfl⟩
    have hne2 := Bs.own_ne hown' hb2 (show TR ≠ TX by decide)
    have := ((Fr.refl (fun k => k = bc) w2).set (p := ⟨bc, 0, none⟩) (.inl rfl) v').own hown' (fun g hg e => hne2 (by rw [hg, e]))
    simpa using this
  have hmv : ∀ k, (k = bc ∨ v'.ownBlock = some k) → M k ∨ w.heap.size ≤ k := by
    intro k hk
    rcases hk with hk | hk
    · exact .inl ((HM.out k).2 (.inl hk))
    · rcases hat with h | h
      · exact .inl ((HM.out k).2 (.inr (by rw [← h]; exact hk)))
      · rw [h] at hk
        injection hk with hk
        exact .inr (by rw [← hk]; simp)
  have HF := Lib.hid hf2
  have HA := Lib.hid hat2
  have HV := Lib.hid hmv
  obtain ⟨A', c', rfl⟩ := Bs.own_slice hown'
  clear hf2 hat2 hat hmv hown' hgrow
  go_wp2
  go_ret
  exact ⟨rfl, _, HA.out, HF.out, HV.out⟩
def cb_got (bc : Nat) : CB 42 #[.pointer (some ⟨bc, 0, none⟩)] (fun _ _ => true) where
  St := App bc
  keep := App.keep
  lt := App.lt
  enter := fun args W => enter_of Try.func42 (by rfl) (by rfl) args W
  call := fun ws M W x h hl => app_got bc ws M W x h hl
/-- A variable at block bk that counts, and one at bf that holds the bound. -/
def Cnt (bk bf : Nat) (few : Int) (ws : List ByteArray) (M : Nat → Prop) (w : World) : Prop :=
  w.heap[bk]? = some (.cells #[.int .i64 ws.length] 3 (0, 0)) ∧ w.heap[bf]? = some (.cells #[.int .u8 few] 5 (0, 0)) ∧ bk ≠ bf ∧ ∀ k, M k ↔ (k = bk ∨ k = bf)
set_option maxHeartbeats 1000000 in
set_option maxRecDepth 100000 in
theorem cnt_c (bk bf : Nat) (few : Int) (hf0 : 0 ≤ few) (hf1 : few < 256) (ws : List ByteArray) (M : Nat → Prop) (w : World) (x : ByteArray) (h : Cnt bk bf few ws M w) (hl : ws.length ≤ 1000000) :
    Calls Try.prog 43 #[.string x, .pointer (some ⟨bk, 0, none⟩), .pointer (some ⟨bf, 0, none⟩)] w fun e w' => e = .returned (.bool (decide ((ws.length : Int) + 1 ≤ few))) ∧ ∃ M', Cnt bk bf few (ws ++ [x]) M' w' ∧ Fr M w w' ∧ ∀ k, M' k → M k ∨ w.heap.size ≤ k := by
  obtain ⟨h1, h2, h3, hM⟩ := h
  have c1 : w.cell? ⟨bk, 0, none⟩ = some (.int .i64 ws.length) := by rw [cell_heap h1]; rfl
  have c2 : w.cell? ⟨bf, 0, none⟩ = some (.int .u8 few) := by rw [cell_heap h2]; rfl
  have f1 : w.frozen? ⟨bk, 0, none⟩ = false := free_heap h1 0
  have hh1 := heap_set h1 0 (.int .i64 ((ws.length : Int) + 1))
  have hh2 := heap_far h2 (p := ⟨bk, 0, none⟩) (fun e => h3 e.symm) (.int .i64 ((ws.length : Int) + 1))
  have c3 : (w.setCell ⟨bk, 0, none⟩ (.int .i64 ((ws.length : Int) + 1))).cell? ⟨bk, 0, none⟩ = some (.int .i64 ((ws.length : Int) + 1)) := by rw [cell_heap hh1]; rfl
  have c4 : (w.setCell ⟨bk, 0, none⟩ (.int .i64 ((ws.length : Int) + 1))).cell? ⟨bf, 0, none⟩ = some (.int .u8 few) := by rw [cell_heap hh2]; rfl
  have H1 := Lib.hid hh1
  have H2 := Lib.hid hh2
  have H3 := Lib.hid h3
  have HM := Lib.hid hM
  clear h1 h2 h3 hh1 hh2 hM
  go_enter Try.func43, Try.ntmps43
  go_wp2
  go_ret
  refine ⟨rfl, M, ⟨?_, H2.out, H3.out, HM.out⟩, (Fr.refl M w).set (.inl ((HM.out bk).2 (.inl rfl))) _, fun k hk => .inl hk⟩
  rw [List.length_append]
  exact H1.out
def cb_cnt (bk bf : Nat) (few : Int) (hf0 : 0 ≤ few) (hf1 : few < 256) : CB 43 #[.pointer (some ⟨bk, 0, none⟩), .pointer (some ⟨bf, 0, none⟩)] (fun ws _ => decide ((ws.length : Int) + 1 ≤ few)) where
  St := Cnt bk bf few
  keep := fun h hf hS => ⟨hf.heap h.1 (hS _ ((h.2.2.2 _).2 (.inl rfl))), hf.heap h.2.1 (hS _ ((h.2.2.2 _).2 (.inr rfl))), h.2.2⟩
  lt := fun h k hk => ((h.2.2.2 k).1 hk).elim (fun e => by rw [e]; exact Bs.blk_lt h.1) (fun e => by rw [e]; exact Bs.blk_lt h.2.1)
  enter := fun args W => enter_of Try.func43 (by rfl) (by rfl) args W
  call := fun ws M W x h hl => cnt_c bk bf few hf0 hf1 ws M W x h hl
/-- A Script is a source. -/
def scrS (B b : Nat) (ob : Option Nat) (l : List ByteArray) (fail : Int) (hl : l.length ≤ 1000000) : SRC Src.PC (.pointer (some ⟨b, 0, none⟩)) where
  fn := 32
  is := fun xT w => Src.isScr _ xT w
  meth := fun w => Src.mNextS _ w _ rfl
  enter := fun args W => enter_of Try.func32 (by rfl) (by rfl) args W
  St := fun r e M W => ∃ i, i ≤ l.length ∧ Src.told fail i (l.drop i) = (r, e) ∧ Src.Scr B b ob l i fail W ∧ ∀ k, M k ↔ (k = b ∨ ob = some k)
  keep := by
    rintro r e M W W' S ⟨i, hi, ht, hs, hM⟩ hf hS
    exact ⟨i, hi, ht, hs.fr hf (hS _ ((hM _).2 (.inl rfl))) (fun g hg => hS _ ((hM _).2 (.inr hg))), hM⟩
  lt := by
    rintro r e M W ⟨i, hi, ht, hs, hM⟩ k hk
    rcases (hM k).1 hk with rfl | h
    · exact hs.lt
    · exact (hs.row h).2.1
  more := by
    rintro s r e M W ⟨i, hi, ht, hs, hM⟩
    have htl := Src.tells_drop (fail := fail) hi
    have hnc := Src.next_c B b ob l i fail W hs hi hl
    generalize Src.nxt fail i (l.drop i) = q at htl hnc
    obtain ⟨o, e1, j⟩ := q
    refine hnc.mono ?_
    rintro x W' ⟨w0, hw0, hh, hs1, hf1⟩
    cases o with
    | none =>
      obtain ⟨_, _, h3, _⟩ := htl
      rw [ht] at h3
      injection h3 with h3 _
      cases h3
    | some t =>
      obtain ⟨rfl, h1, h2, h3, h4⟩ := htl
      rw [Src.drop_back (by omega), ht] at h3
      injection h3 with h3 h5
      injection h3 with h3 h6
      subst h3
      have hln : (l.drop i).length = l.length - i := List.length_drop
      obtain ⟨cp, rfl, hby, cs, hcs, _⟩ := hh.some
      have := Bs.blk_lt hcs
      exact ⟨w0.heap.size, cp, rfl, hby, by omega, this, ⟨j, by omega, Prod.ext h6.symm h5.symm, hs1, hM⟩, hf1.mono (fun k hk => (hM k).2 (.inl hk))⟩
  last := by
    rintro e M W ⟨i, hi, ht, hs, hM⟩
    have htl := Src.tells_drop (fail := fail) hi
    have hnc := Src.next_c B b ob l i fail W hs hi hl
    generalize Src.nxt fail i (l.drop i) = q at htl hnc
    obtain ⟨o, e1, j⟩ := q
    refine hnc.mono ?_
    rintro x W' ⟨w0, hw0, hh, hs1, hf1⟩
    cases o with
    | some t =>
      obtain ⟨_, _, _, h3, _⟩ := htl
      rw [ht] at h3
      injection h3 with h3 _
      cases h3
    | none =>
      obtain ⟨h1, h2, h3, h4⟩ := htl
      rw [ht] at h3
      injection h3 with _ h3
      subst h3
      rw [Src.drop_back h1] at h4
      have hln : (l.drop i).length = l.length - i := List.length_drop
      exact ⟨hh, ⟨j, by omega, h4, hs1, hM⟩, hf1.mono (fun k hk => (hM k).2 (.inl hk))⟩
/-- A Plain is a source. -/
def plainS (b : Nat) : SRC Src.PP (.pointer (some ⟨b, 0, none⟩)) where
  fn := 34
  is := fun xT w => Src.isPlain _ xT w
  meth := fun w => Src.mNextP _ w _ rfl
  enter := fun args W => enter_of Try.func34 (by rfl) (by rfl) args W
  St := fun r e M W => e = 0 ∧ (∃ s, Src.PlainAt b s W ∧ r = (Src.plain s).toList) ∧ ∀ k, M k ↔ k = b
  keep := by
    rintro r e M W W' S ⟨he, ⟨s, hs, hr⟩, hM⟩ hf hS
    exact ⟨he, ⟨s, hf.heap hs (hS _ ((hM _).2 rfl)), hr⟩, hM⟩
  lt := by
    rintro r e M W ⟨he, ⟨s, hs, hr⟩, hM⟩ k hk
    rw [(hM k).1 hk]
    exact Bs.blk_lt hs
  more := by
    rintro s r e M W ⟨he, ⟨t, hs, hr⟩, hM⟩
    refine (Src.plain_c b t W hs).mono ?_
    rintro x W' ⟨hh, hp, hf⟩
    by_cases h0 : t = ByteArray.empty
    · rw [Src.plain, if_pos h0] at hr
      cases hr
    · rw [Src.plain, if_neg h0] at hr hh
      injection hr with h1 h2
      subst h1 h2
      obtain ⟨cp, rfl, hby, cs, hcs, _⟩ := hh.some
      exact ⟨W.heap.size, cp, rfl, hby, Nat.le_refl _, Bs.blk_lt hcs, ⟨he, ⟨_, hp, by rw [Src.plain, if_pos rfl]; rfl⟩, hM⟩, hf.mono (fun k hk => (hM k).2 hk)⟩
  last := by
    rintro e M W ⟨he, ⟨t, hs, hr⟩, hM⟩
    refine (Src.plain_c b t W hs).mono ?_
    rintro x W' ⟨hh, hp, hf⟩
    by_cases h0 : t = ByteArray.empty
    · rw [Src.plain, if_pos h0] at hh
      exact ⟨by rw [he]; exact hh, ⟨he, ⟨_, hp, by rw [Src.plain, if_pos rfl]; rfl⟩, hM⟩, hf.mono (fun k hk => (hM k).2 hk)⟩
    · rw [Src.plain, if_neg h0] at hr
      cases hr
end Go.Proofs.Ytmldibphbilghaa.Cor

namespace Go.Proofs.Ytmldibphbilghaa.Cor
open Go.RowKit Go.Proofs.YtmldibphbilghaaW.PrintWords
set_option linter.unusedVariables false
set_option linter.unusedSimpArgs false
/-- All words. -/
theorem each_all (lim err : Int) : ∀ (r : List ByteArray) (op : List UInt8) (ws : List ByteArray) (many : Nat),
    eachL lim (fun _ _ => true) err op ws many r = if (Spl.feedL lim op (Pure.wholeL r) []).2.1 = true then
      (if err = 0 then (many + (Spl.feedL lim op (Pure.wholeL r) []).1.length + (Spl.endL (Spl.feedL lim op (Pure.wholeL r) []).2.2).length, 0, ws ++ ((Spl.feedL lim op (Pure.wholeL r) []).1 ++ Spl.endL (Spl.feedL lim op (Pure.wholeL r) []).2.2).map Pr.mkB)
      else (many + (Spl.feedL lim op (Pure.wholeL r) []).1.length, err, ws ++ (Spl.feedL lim op (Pure.wholeL r) []).1.map Pr.mkB))
    else (many + (Spl.feedL lim op (Pure.wholeL r) []).1.length, 4, ws ++ (Spl.feedL lim op (Pure.wholeL r) []).1.map Pr.mkB)
  | [], op, ws, many => by
    rw [show Pure.wholeL [] = [] from rfl, show Spl.feedL lim op [] [] = ([], true, op) from rfl, eachL, hand_all]
    simp
  | s :: r, op, ws, many => by
    have hw : Pure.wholeL (s :: r) = s.data.toList ++ Pure.wholeL r := by simp [Pure.wholeL]
    rw [eachL, hand_all, if_pos rfl, hw, Spl.feed_app]
    by_cases hok : (Spl.feedL lim op s.data.toList []).2.1 = true
    · rw [if_pos hok, if_pos hok, each_all lim err r]
      have hp := Spl.feed_pre lim (Spl.feedL lim op s.data.toList []).1 (Pure.wholeL r) (Spl.feedL lim op s.data.toList []).2.2 []
      rw [List.append_nil] at hp
      rw [hp]
      generalize Spl.feedL lim (Spl.feedL lim op s.data.toList []).2.2 (Pure.wholeL r) [] = G
      obtain ⟨L, ok, op2⟩ := G
      simp only [List.length_append, List.length_map, List.map_append, List.append_assoc, Nat.add_assoc, Nat.zero_add]
    · rw [if_neg hok, if_neg hok, if_neg hok, List.length_map, Nat.zero_add]
/-- The first few. -/
abbrev upTo (few : Int) : List ByteArray → ByteArray → Bool := fun ws _ => decide ((ws.length : Int) + 1 ≤ few)
theorem hand_few (few : Nat) : ∀ (l ws : List ByteArray) (i : Nat), ws.length ≤ few →
    (ws.length + l.length ≤ few → handL (upTo few) ws l i = (i + l.length, true, ws ++ l)) ∧ (few < ws.length + l.length → (handL (upTo few) ws l i).1 = i + (few + 1 - ws.length) ∧ (handL (upTo few) ws l i).2.1 = false ∧ (handL (upTo few) ws l i).2.2.length = few + 1)
  | [], ws, i, h => by
    refine ⟨fun _ => by simp [handL], fun h2 => by simp at h2; omega⟩
  | x :: r, ws, i, h => by
    rw [handL]
    by_cases hc : ws.length + 1 ≤ few
    · have ih := hand_few few r (ws ++ [x]) (i + 1) (by simp; exact hc)
      rw [if_pos (by simp [upTo]; omega)]
      simp only [List.length_append, List.length_cons, List.length_nil] at ih ⊢
      refine ⟨fun h2 => ?_, fun h2 => ?_⟩
      · rw [ih.1 (by omega)]
        simp
        omega
      · obtain ⟨h3, h4, h5⟩ := ih.2 (by omega)
        exact ⟨by rw [h3]; omega, h4, h5⟩
    · rw [if_neg (by simp [upTo]; omega)]
      simp only [List.length_append, List.length_cons, List.length_nil]
      refine ⟨fun h2 => by omega, fun _ => ⟨by omega, trivial, by omega⟩⟩
theorem each_grows (lim err : Int) (r : List ByteArray) (op : List UInt8) (ws : List ByteArray) (many : Nat) : ws.length ≤ (eachL lim (fun _ _ => true) err op ws many r).2.2.length := by
  rw [each_all]
  split
  · split <;> simp
  · simp
theorem each_few (lim err : Int) (few : Nat) : ∀ (r : List ByteArray) (op : List UInt8) (ws : List ByteArray), ws.length ≤ few →
    ((eachL lim (fun _ _ => true) err op ws ws.length r).2.2.length ≤ few → eachL lim (upTo few) err op ws ws.length r = eachL lim (fun _ _ => true) err op ws ws.length r) ∧
    (few < (eachL lim (fun _ _ => true) err op ws ws.length r).2.2.length → (eachL lim (upTo few) err op ws ws.length r).1 = few + 1 ∧ (eachL lim (upTo few) err op ws ws.length r).2.1 = 0 ∧ (eachL lim (upTo few) err op ws ws.length r).2.2.length = few + 1)
  | [], op, ws, h => by
    rw [eachL, eachL, hand_all]
    by_cases he : err = 0
    · rw [if_pos he, if_pos he]
      obtain ⟨h1, h2⟩ := hand_few few ((Spl.endL op).map Pr.mkB) ws 0 h
      refine ⟨fun hl => ?_, fun hl => ?_⟩
      · rw [h1 (by simpa using hl)]
      · obtain ⟨h3, h4, h5⟩ := h2 (by simpa using hl)
        exact ⟨by rw [h3]; omega, rfl, h5⟩
    · rw [if_neg he, if_neg he]
      exact ⟨fun _ => rfl, fun hl => absurd hl (by simp; exact h)⟩
  | s :: r, op, ws, h => by
    rw [eachL, eachL, hand_all, if_pos rfl]
    obtain ⟨h1, h2⟩ := hand_few few ((Spl.feedL lim op s.data.toList []).1.map Pr.mkB) ws 0 h
    generalize (Spl.feedL lim op s.data.toList []).1.map Pr.mkB = Y at h1 h2
    by_cases hY : ws.length + Y.length ≤ few
    · rw [h1 hY, if_pos rfl]
      by_cases hok : (Spl.feedL lim op s.data.toList []).2.1 = true
      · rw [if_pos hok, if_pos hok]
        have ih := each_few lim err few r (Spl.feedL lim op s.data.toList []).2.2 (ws ++ Y) (by simp; exact hY)
        rw [List.length_append] at ih
        rw [Nat.zero_add]
        exact ih
      · rw [if_neg hok, if_neg hok]
        exact ⟨fun _ => rfl, fun hl => absurd hl (by simp; exact hY)⟩
    · obtain ⟨h3, h4, h5⟩ := h2 (by omega)
      have hn : ¬ (handL (upTo few) ws Y 0).2.1 = true := by rw [h4]; simp
      rw [if_neg hn]
      refine ⟨fun hl => ?_, fun _ => ⟨by rw [h3]; omega, rfl, h5⟩⟩
      exfalso
      split at hl
      · have := each_grows lim err r (Spl.feedL lim op s.data.toList []).2.2 (ws ++ Y) (ws.length + (0 + Y.length))
        rw [List.length_append] at this
        exact hY (Nat.le_trans this hl)
      · simp at hl; omega
end Go.Proofs.Ytmldibphbilghaa.Cor

namespace Go.Proofs.Ytmldibphbilghaa.Cor
open Go.RowKit Go.Proofs.Ytmldibphbilghaa.Bs Go.Proofs.YtmldibphbilghaaW.PrintWords
set_option linter.unusedVariables false
set_option linter.unusedSimpArgs false
set_option maxHeartbeats 1000000 in
set_option maxRecDepth 100000 in
theorem each_bad (x V : Value) (lim : Int) (w : World) (h : lim < 1 ∨ 65536 < lim) : Calls Try.prog 41 #[x, .int .i64 lim, V] w fun e w' => e = .returned (.tuple #[.int .i64 0, .int .i64 2]) ∧ w' = w := by
  go_enter Try.func41, Try.ntmps41
  rcases h with h | h
  · go_wp2_with fail
    go_ret2
    exact ⟨rfl, rfl⟩
  · have h2 : ¬ lim < 1 := by omega
    go_wp2_with fail
    go_ret2
    exact ⟨rfl, rfl⟩
set_option maxHeartbeats 1000000 in
set_option maxRecDepth 100000 in
theorem each_str (v V : Value) (lim : Int) (w : World) (h1 : 1 ≤ lim) (h2 : lim ≤ 65536) : Calls Try.prog 41 #[.iface 9 v, .int .i64 lim, V] w fun e w' => e = .returned (.tuple #[.int .i64 0, .int .i64 11]) ∧ w' = w := by
  have h := Src.isStr v
  go_enter Try.func41, Try.ntmps41
  go_wp2_with fail
  go_ret2
  exact ⟨rfl, rfl⟩
set_option maxHeartbeats 1000000 in
set_option maxRecDepth 100000 in
theorem each_none (V : Value) (lim : Int) (w : World) (h1 : 1 ≤ lim) (h2 : lim ≤ 65536) : Calls Try.prog 41 #[.nilIface, .int .i64 lim, V] w fun e w' => e = .returned (.tuple #[.int .i64 0, .int .i64 11]) ∧ w' = w := by
  have h := Src.nilSource
  go_enter Try.func41, Try.ntmps41
  go_wp2_with fail
  go_ret2
  exact ⟨rfl, rfl⟩
set_option maxHeartbeats 1000000 in
set_option maxRecDepth 100000 in
theorem read_bad (x : Value) (lim : Int) (w : World) (h : lim < 1 ∨ 65536 < lim) : Calls Try.prog 40 #[x, .int .i64 lim] w fun e w' => e = .returned (.tuple #[.slice none 0 0, .int .i64 2]) ∧ Fr (fun _ => False) w w' := by
  have hmf : ∀ (fn : Fn) (first cap : Array Value) (w : World), (Instr.makeFunc fn first cap).run Try.prog w = .ok (.func fn first cap) w := fun _ _ _ _ => rfl
  have HH := Lib.hid h
  clear h
  go_enter Try.func40, Try.ntmps40
  go_wp2_with fail
  refine (each_bad _ _ _ _ HH.out).mono ?_
  rintro e w1 ⟨rfl, rfl⟩
  go_wp2_with fail
  go_ret2
  exact ⟨rfl, (Fr.refl _ _).alloc _⟩
set_option maxHeartbeats 1000000 in
set_option maxRecDepth 100000 in
theorem read_str (v : Value) (lim : Int) (w : World) (h1 : 1 ≤ lim) (h2 : lim ≤ 65536) : Calls Try.prog 40 #[.iface 9 v, .int .i64 lim] w fun e w' => e = .returned (.tuple #[.slice none 0 0, .int .i64 11]) ∧ Fr (fun _ => False) w w' := by
  have hmf : ∀ (fn : Fn) (first cap : Array Value) (w : World), (Instr.makeFunc fn first cap).run Try.prog w = .ok (.func fn first cap) w := fun _ _ _ _ => rfl
  have HH := Lib.hid h1
  have HH2 := Lib.hid h2
  clear h1 h2
  go_enter Try.func40, Try.ntmps40
  go_wp2_with fail
  refine (each_str _ _ _ _ HH.out HH2.out).mono ?_
  rintro e w1 ⟨rfl, rfl⟩
  go_wp2_with fail
  go_ret2
  exact ⟨rfl, (Fr.refl _ _).alloc _⟩
set_option maxHeartbeats 2000000 in
set_option maxRecDepth 100000 in
theorem read_c {T : TypeId} {p : Value} (R : SRC T p) (r : List ByteArray) (err : Int) (lim : Int) (MS : Nat → Prop) (w : World) (n : Nat) (E : Int) (Y : List ByteArray)
    (hs : R.St r err MS w) (h1 : 1 ≤ lim) (h2 : lim ≤ 65536) (hbig : 2 * (Pure.wholeL r).length ≤ 100000) (hq : eachL lim (fun _ _ => true) err [] [] 0 r = (n, E, Y)) :
    Calls Try.prog 40 #[.iface T p, .int .i64 lim] w fun e w' => Fr MS w w' ∧
      ((E ≠ 0 ∧ e = .returned (.tuple #[.slice none 0 0, .int .i64 E])) ∨ (E = 0 ∧ ∃ v, e = .returned (.tuple #[v, .int .i64 0]) ∧ w'.ownsRow 0 TX 1 v Y.length (Y.map Value.string))) := by
  have hmf : ∀ (fn : Fn) (first cap : Array Value) (w : World), (Instr.makeFunc fn first cap).run Try.prog w = .ok (.func fn first cap) w := fun _ _ _ _ => rfl
  have hs1 := R.keep hs ((Fr.refl (fun _ => False) w).alloc (.cells #[.slice none 0 0] TR)) (fun _ _ h => h)
  have hec := each_c R (HD.ofCB (cb_read w.heap.size)) r err lim [] MS (fun k => k = w.heap.size) _ hs1 (App.fresh w) (fun k hk e => by have := R.lt hs k hk; omega) h1 h2 (by simpa using hbig)
  rw [hq] at hec
  have HE := Lib.hid hec
  clear hs hs1 hec hq hbig
  go_enter Try.func40, Try.ntmps40
  go_wp2_with fail
  refine HE.out.mono ?_
  rintro e w2 ⟨rfl, M', hst, hf, hm⟩
  obtain ⟨v, hb, ho, hM⟩ := hst
  have hf2 : Fr MS w w2 := ((Fr.refl MS w).alloc _).trans hf (fun k hk => hk.elim .inl (fun e => .inr (by rw [e]; exact Nat.le_refl _)))
  have HF := Lib.hid hf2
  have HO := Lib.hid ho
  have c0 : w2.cell? ⟨w.heap.size, 0, none⟩ = some v := by rw [cell_heap hb]; rfl
  clear hf hm hb ho hM hf2 HE
  by_cases h0 : E = 0
  · subst h0
    go_wp2_with fail
    go_ret2
    exact ⟨HF.out, v, rfl, HO.out⟩
  · go_wp2_with fail
    go_ret2
    refine ⟨HF.out, ?_⟩
    first | exact Or.inl ⟨h0, rfl⟩ | exact ⟨h0, rfl⟩ | exact rfl
theorem each_words (lim : Int) (r : List ByteArray) (h : ((Pure.wholeL r).length : Int) ≤ lim) : eachL lim (fun _ _ => true) 0 [] [] 0 r = ((Pure.wordsW [] (Pure.wholeL r)).length, 0, (Pure.wordsW [] (Pure.wholeL r)).map Pr.mkB) := by
  obtain ⟨h1, h2⟩ := Pure.feed_W lim (Pure.wholeL r) [] [] (by simpa using h)
  rw [List.nil_append] at h2
  rw [each_all, if_pos h1, if_pos rfl, List.nil_append, h2, ← h2, List.length_append]
  simp
theorem plain_whole (s : ByteArray) : Pure.wholeL (Src.plain s).toList = s.data.toList := by
  unfold Src.plain
  by_cases h : s = ByteArray.empty
  · rw [if_pos h, h]; rfl
  · rw [if_neg h]; simp [Pure.wholeL]
end Go.Proofs.Ytmldibphbilghaa.Cor
namespace Go.Proofs.Ytmldibphbilghaa.Pr
open Go.RowKit Go.Proofs.Ytmldibphbilghaa.Bs Go.Proofs.YtmldibphbilghaaW.PrintWords Go.Proofs.YtmldibphbilghaaW.PrintLast Go.Proofs.YtmldibphbilghaaW.PrintMore
set_option linter.unusedVariables false
set_option linter.unusedSimpArgs false
theorem aw1 : Src.told (-1) 0 [mkB [97, 98], mkB [99, 32, 100]] = ([mkB [97, 98], mkB [99, 32, 100]], 0) := by decide +kernel
theorem aw2 : Cor.eachL 9 (fun _ _ => true) 0 [] [] 0 [mkB [97, 98], mkB [99, 32, 100]] = (2, 0, [mkB [97, 98, 99], mkB [100]]) := by decide +kernel
/-- A row that the call owns reads as its words. -/
theorem own_reads {w : World} {B : Nat} {v : Value} {Y : List ByteArray} (h : w.ownsRow B Cor.TX 1 v Y.length (Y.map Value.string)) : ∃ A c, v = .slice A Y.length c ∧ Y.length ≤ c ∧ Kd.C Kd.string w A Y.length Y := by
  have hR : Kd.R Kd.string 9 w B (fun _ => True) v Y := Kd.R_of_own h (fun _ _ => trivial)
  exact Kd.R_reads hR
def gluepotlaw05_awake.f : Option Bool := some true
set_option maxHeartbeats 2000000 in
set_option maxRecDepth 100000 in
theorem gluepotlaw05_awake.calls (r : Bool) (w : World) (h : gluepotlaw05_awake.f = some r) :
    Calls Try.prog 37 #[] w fun e w' => e = .returned (.bool r) ∧ Below w.heap.size w w' := by
  cases h
  go_enter Try.func37, Try.ntmps37
  go_wp2_with fail
  refine (Src.new_c _ 2 [mkB [97, 98], mkB [99, 32, 100]] (-1) _ (Src.lit_two w _ _) (by decide)).mono ?_
  rintro e w1 ⟨b, ob, rfl, hs, hf⟩
  have hf1 : Fr (fun _ => False) w w1 := ((Fr.refl _ w).alloc _).trans hf (fun _ h => h.elim)
  have hwb : ∀ k, (k = b ∨ ob = some k) → w.heap.size ≤ k := fun k hk => hk.elim (fun e => by rw [e]; exact Nat.le_trans (by simp) hs.le) (fun e => Nat.le_trans (by simp) (hs.row e).1)
  have hst : (Cor.scrS (w.alloc (.cells #[.string (mkB [97, 98]), .string (mkB [99, 32, 100])] 9)).heap.size b ob [mkB [97, 98], mkB [99, 32, 100]] (-1) (by decide)).St [mkB [97, 98], mkB [99, 32, 100]] 0 (fun k => k = b ∨ ob = some k) w1 := ⟨0, Nat.zero_le _, aw1, hs, fun k => Iff.rfl⟩
  have hrc := Cor.read_c _ _ _ 9 _ w1 2 0 _ hst (by decide) (by decide) (by decide +kernel) aw2
  have HRC := Lib.hid hrc
  have HF := Lib.hid hf1
  have HWB := Lib.hid hwb
  clear hs hf hf1 hst hrc hwb
  go_wp2_with fail
  refine HRC.out.mono ?_
  rintro e w2 ⟨hf2, ⟨h0, _⟩ | ⟨_, v, rfl, ho⟩⟩
  · exact absurd rfl h0
  obtain ⟨A2, p2, rfl, hp2, hC2⟩ := own_reads ho
  have HF2 := Lib.hid (HF.out.trans hf2 (fun k hk => .inr (HWB.out k hk)))
  have HC2 := Lib.hid hC2
  clear hf2 ho hC2 HRC
  go_wp2_with fail
  refine (gluepotref01_Texts.calls 5 A2 p2 [mkB [97, 98, 99], mkB [100]] (some ⟨w2.heap.size, 0, none⟩) 2 [mkB [97, 98, 99], mkB [100]] true _ (Kd.C_below HC2.out ((Below.refl _ _).alloc (Nat.le_refl _) _)) hp2 (Src.lit_two _ _ _) (Nat.le_refl _) (Pure.texts_same _ (by decide) (by decide))).mono ?_
  rintro e w3 ⟨rfl, ⟨q, hq⟩⟩
  have HF3 := Lib.hid (show Fr (fun _ => False) w w3 from by rw [hq]; exact (HF2.out.alloc _).drewN q)
  clear hq
  go_wp2_with fail
  go_ret
  exact ⟨by rfl, HF3.out.toBelow (fun _ h => h.elim) (Nat.le_refl _)⟩
def gluepotlaw05_CorpusKinds.f (a0 : ByteArray) (a1 : Int) : Option Bool := some true
set_option maxHeartbeats 2000000 in
set_option maxRecDepth 100000 in
theorem gluepotlaw05_CorpusKinds.calls (a0 : ByteArray) (a1 : Int) (r : Bool) (w : World) (h : gluepotlaw05_CorpusKinds.f a0 a1 = some r) :
    Calls Try.prog 12 #[.string a0, .int .i64 a1] w fun e w' => e = .returned (.bool r) ∧ Below w.heap.size w w' := by
  cases h
  go_enter Try.func12, Try.ntmps12
  go_wp2_with fail
  refine (gluepotlaw05_awake.calls true _ rfl).mono ?_
  rintro e w1 ⟨rfl, hb1⟩
  have HB1 := Lib.hid hb1
  clear hb1
  by_cases hbig : 3000 < a0.size
  · go_wp2_with fail
    go_ret
    exact ⟨rfl, HB1.out⟩
  · have hx : ∃ EE : Int, (∀ W : World, Calls Try.prog 40 #[.iface 9 (.string a0), .int .i64 a1] W fun e w' => e = .returned (.tuple #[.slice none 0 0, .int .i64 EE]) ∧ Fr (fun _ => False) W w') ∧
        (∀ W : World, Calls Try.prog 41 #[.nilIface, .int .i64 a1, .nilFunc] W fun e w' => e = .returned (.tuple #[.int .i64 0, .int .i64 EE]) ∧ w' = W) ∧
        ((a1 < 1 ∧ EE = 2) ∨ (1 ≤ a1 ∧ 65536 < a1 ∧ EE = 2) ∨ (1 ≤ a1 ∧ a1 ≤ 65536 ∧ EE = 11)) := by
      by_cases h1 : a1 < 1
      · exact ⟨2, fun W => Cor.read_bad _ _ _ (.inl h1), fun W => Cor.each_bad _ _ _ _ (.inl h1), .inl ⟨h1, rfl⟩⟩
      · by_cases h2 : 65536 < a1
        · exact ⟨2, fun W => Cor.read_bad _ _ _ (.inr h2), fun W => Cor.each_bad _ _ _ _ (.inr h2), .inr (.inl ⟨by omega, h2, rfl⟩)⟩
        · exact ⟨11, fun W => Cor.read_str _ _ _ (by omega) (by omega), fun W => Cor.each_none _ _ _ (by omega) (by omega), .inr (.inr ⟨by omega, by omega, rfl⟩)⟩
    obtain ⟨EE, hx1, hx2, hx3⟩ := hx
    have HX1 := Lib.hid hx1
    have HX2 := Lib.hid hx2
    have hwd := Pure.refwords_f (k := 10000) a0 (by omega) (by omega)
    have hwl := Pure.wordsW_len a0.data.toList []
    have hls : a0.data.toList.length = a0.size := by simp
    have hew := Cor.each_words 65536 (Src.plain a0).toList (by rw [Cor.plain_whole]; omega)
    rw [Cor.plain_whole] at hew
    generalize Pure.wordsW [] a0.data.toList = Wd at hwd hwl hew
    have HWD := Lib.hid hwd
    have HEW := Lib.hid hew
    have hec : ∀ (b : Nat) (W : World), Src.PlainAt b a0 W → Calls Try.prog 41 #[.iface Src.PP (.pointer (some ⟨b, 0, none⟩)), .int .i64 65536, .nilFunc] W fun e w' => e = .returned (.tuple #[.int .i64 Wd.length, .int .i64 0]) ∧ Fr (fun k => k = b) W w' := by
      intro b W hp
      have := Cor.each_c (Cor.plainS b) Cor.HD.none (Src.plain a0).toList 0 65536 [] (fun k => k = b) (fun _ => False) W ⟨rfl, ⟨a0, hp, rfl⟩, fun k => Iff.rfl⟩ (fun _ h => h) (fun _ _ h => h) (by decide) (by decide) (by rw [Cor.plain_whole]; simp; omega)
      rw [HEW.out] at this
      refine this.mono ?_
      rintro e w' ⟨rfl, M', _, hf, _⟩
      exact ⟨rfl, hf.mono (fun k hk => hk.elim id (fun h => h.elim))⟩
    have HEC := Lib.hid hec
    clear hx1 hx2 hwd hew hec
    rcases hx3 with ⟨c1, rfl⟩ | ⟨c1, c2, rfl⟩ | ⟨c1, c2, rfl⟩
    all_goals
      go_wp2_with fail
      refine (HX1.out _).mono ?_
      rintro e w2 ⟨rfl, hf2⟩
      have HF2 := Lib.hid ((Fr.ofBelow (S := fun _ => False) HB1.out).trans hf2 (fun _ h => h.elim))
      clear hf2
      go_wp2_with fail
      refine (HX2.out _).mono ?_
      rintro e w3 ⟨rfl, rfl⟩
      go_wp2_with fail
      refine (HEC.out _ _ (heap_new _ _)).mono ?_
      rintro e w4 ⟨rfl, hf4⟩
      have HF4 := Lib.hid ((HF2.out.alloc _).trans hf4 (fun k hk => .inr (by rw [hk]; exact HF2.out.size)))
      clear hf4
      go_wp2_with fail
      refine (gluepotref03_Words.calls 10000 _ _ _ HWD.out).mono ?_
      rintro e w5 ⟨v5, rfl, hR5, hb5⟩
      obtain ⟨A5, p5, rfl, hp5, hC5⟩ := Kd.R_reads hR5
      have HF5 := Lib.hid (HF4.out.below hb5)
      clear hb5 hC5 hR5
      go_wp2_with fail
      go_ret
      exact ⟨by simp, HF5.out.toBelow (fun _ h => h.elim) (Nat.le_refl _)⟩
end Go.Proofs.Ytmldibphbilghaa.Pr

namespace Go.Proofs.Ytmldibphbilghaa.Cor
open Go.RowKit Go.Proofs.Ytmldibphbilghaa.Bs Go.Proofs.YtmldibphbilghaaW.PrintWords
set_option linter.unusedVariables false
set_option linter.unusedSimpArgs false
theorem feed_ok_W (lim : Int) : ∀ (xs op : List UInt8) (out : List (List UInt8)), (Spl.feedL lim op xs out).2.1 = true → (Spl.feedL lim op xs out).1 ++ Spl.endL (Spl.feedL lim op xs out).2.2 = out ++ Pure.wordsW op xs
  | [], op, out, _ => rfl
  | c :: l, op, out, h => by
    rw [Spl.feedL] at h ⊢
    rw [Pure.wordsW]
    by_cases hg : Spl.gap c = true
    · rw [if_pos hg] at h ⊢
      rw [if_pos hg]
      by_cases he : op = []
      · rw [if_pos he] at h ⊢
        rw [if_pos he]
        exact feed_ok_W lim l [] out h
      · rw [if_neg he] at h ⊢
        rw [if_neg he, feed_ok_W lim l [] (out ++ [op]) h, List.append_assoc]
        rfl
    · rw [if_neg hg] at h ⊢
      rw [if_neg hg]
      split at h
      · rename_i hl
        rw [if_pos hl]
        exact feed_ok_W lim l (op ++ [c]) out h
      · cases h
/-- What Read hands back: the error, the words. -/
def RD (lim : Int) (S : List UInt8) (err : Int) : Int × List ByteArray :=
  if lim < 1 ∨ 65536 < lim then (2, []) else
  if (Spl.feedL lim [] S []).2.1 = true then (if err = 0 then (0, (Pure.wordsW [] S).map Pr.mkB) else (err, [])) else (4, [])
theorem RD_words {lim : Int} {S : List UInt8} {err : Int} (h : (RD lim S err).1 = 0) (he : err = 0) : (RD lim S err).2 = (Pure.wordsW [] S).map Pr.mkB := by
  unfold RD at h ⊢
  split
  · rename_i h1; rw [if_pos h1] at h; cases h
  · rename_i h1
    rw [if_neg h1] at h
    split
    · first | rfl | rw [if_pos he]
    · rename_i h2; rw [if_neg h2] at h; cases h
theorem RD_none {lim : Int} {S : List UInt8} {err : Int} (h : (RD lim S err).1 ≠ 0) : (RD lim S err).2 = [] := by
  unfold RD at h ⊢
  split
  · rfl
  · rename_i h1
    rw [if_neg h1] at h
    split
    · rename_i h2
      rw [if_pos h2] at h
      split
      · rename_i h3; rw [if_pos h3] at h; exact absurd rfl h
      · rfl
    · rfl
theorem RD_len (lim : Int) (S : List UInt8) (err : Int) : (RD lim S err).2.length ≤ S.length + 1 := by
  have := Pure.wordsW_len S []
  unfold RD
  split
  · simp
  · split
    · split
      · simp; omega
      · simp
    · simp
theorem nil_reads (w : World) : Kd.C Kd.string w none 0 [] := by
  obtain ⟨A, c, he, _, hC⟩ := Kd.R_reads (Kd.R_nil Kd.string 9 w 0 (fun _ => True))
  cases he
  exact hC
theorem read_any {T : TypeId} {p : Value} (R : SRC T p) (r : List ByteArray) (err : Int) (lim : Int) (MS : Nat → Prop) (w : World) (E : Int) (Y : List ByteArray)
    (hs : R.St r err MS w) (hbig : 2 * (Pure.wholeL r).length ≤ 100000) (hq : RD lim (Pure.wholeL r) err = (E, Y)) :
    Calls Try.prog 40 #[.iface T p, .int .i64 lim] w fun e w' => Fr MS w w' ∧ ∃ A c, e = .returned (.tuple #[.slice A Y.length c, .int .i64 E]) ∧ Y.length ≤ c ∧ Kd.C Kd.string w' A Y.length Y := by
  unfold RD at hq
  by_cases hc : lim < 1 ∨ 65536 < lim
  · rw [if_pos hc] at hq
    cases hq
    refine (read_bad _ lim w hc).mono ?_
    rintro e w' ⟨rfl, hf⟩
    exact ⟨hf.mono (fun _ h => h.elim), none, 0, rfl, Nat.le_refl _, nil_reads _⟩
  · rw [if_neg hc] at hq
    have hrc := fun n E Y hq => read_c R r err lim MS w n E Y hs (by omega) (by omega) hbig hq
    have hea := each_all lim err r [] [] 0
    by_cases hok : (Spl.feedL lim [] (Pure.wholeL r) []).2.1 = true
    · rw [if_pos hok] at hq hea
      by_cases he : err = 0
      · rw [if_pos he] at hq hea
        cases hq
        refine (hrc _ _ _ hea).mono ?_
        rintro e w' ⟨hf, ⟨h0, _⟩ | ⟨_, v, rfl, ho⟩⟩
        · exact absurd rfl h0
        · rw [List.nil_append, feed_ok_W lim _ _ _ hok, List.nil_append] at ho
          obtain ⟨A, c, rfl, h1, h2⟩ := Pr.own_reads ho
          exact ⟨hf, A, c, rfl, h1, h2⟩
      · rw [if_neg he] at hq hea
        cases hq
        refine (hrc _ _ _ hea).mono ?_
        rintro e w' ⟨hf, ⟨h0, rfl⟩ | ⟨h0, _⟩⟩
        · exact ⟨hf, none, 0, rfl, Nat.le_refl _, nil_reads _⟩
        · exact absurd h0 he
    · rw [if_neg hok] at hq hea
      cases hq
      refine (hrc _ _ _ hea).mono ?_
      rintro e w' ⟨hf, ⟨h0, rfl⟩ | ⟨h0, _⟩⟩
      · exact ⟨hf, none, 0, rfl, Nat.le_refl _, nil_reads _⟩
      · cases h0
theorem told_neg : ∀ (l : List ByteArray) (i : Nat), (Src.told (-1) i l).2 = 0 ∧ Pure.wholeL (Src.told (-1) i l).1 = Pure.wholeL l
  | [], i => by rw [Src.told, if_neg (by omega)]; exact ⟨rfl, rfl⟩
  | s :: r, i => by
    obtain ⟨h1, h2⟩ := told_neg r (i + 1)
    rw [Src.told, if_neg (by omega)]
    split
    · rename_i h
      subst h
      exact ⟨h1, by rw [h2]; simp [Pure.wholeL]⟩
    · refine ⟨h1, ?_⟩
      simp only [Pure.wholeL, List.flatMap_cons] at h2 ⊢
      rw [h2]
end Go.Proofs.Ytmldibphbilghaa.Cor
namespace Go.Proofs.Ytmldibphbilghaa.Pr
open Go.RowKit Go.Proofs.Ytmldibphbilghaa.Bs Go.Proofs.YtmldibphbilghaaW.PrintWords Go.Proofs.YtmldibphbilghaaW.PrintLast Go.Proofs.YtmldibphbilghaaW.PrintMore
set_option linter.unusedVariables false
set_option linter.unusedSimpArgs false
/-- 'l = append(l, x)', l owned. -/
theorem append_one {w : World} {ops : Array Oper} {rest : List Oper} {o : Oper} {a : Act} {Q : Exit → Act → World → Prop} (hgd : o.guard = none) (s x : Operand)
    (ho : o.op = .call { callee := .builtin .append, args := #[s, x], argTypes := #[22, 22] }) (base : Nat) (v : Value) (l : List ByteArray) (t : ByteArray) (hs : a.eval s = v) (hx : a.eval x = .slice (some ⟨w.heap.size, 0, none⟩) 1 1)
    (h1 : w.ownsRow base Cor.TX 1 v l.length (l.map Value.string)) (hb : base ≤ w.heap.size) (hn : l.length ≤ 100000000)
    (h : ∀ v' w', w'.ownsRow base Cor.TX 1 v' (l ++ [t]).length ((l ++ [t]).map Value.string) → Fr (fun k => v.ownBlock = some k) w w' → wpList Try.prog ops Q rest (a.put o.dst v') w') : wpList Try.prog ops Q (o :: rest) a (w.alloc (.cells #[.string t] 9)) := by
  obtain ⟨i1, hx1, hx0, hxs, hxb⟩ := info_parts Spl.infoX
  refine wpList_append_own_at _ hgd s x 22 ho base Cor.TX i1 (.string ByteArray.empty) 1 16 Try.underlying22 hx1 hx0 hxs hxb rfl (by decide) v _ _ hs (h1.alloc _) ⟨w.heap.size, 0, none⟩ 1 1 [.string t] hx rfl ?_ ?_ ?_ ?_ ?_ ?_
  · intro j u hj
    match j, hj with
    | 0, hj => simp at hj; subst hj; simp [Addr.add]
  · intro u hu; simp at hu; subst hu; rfl
  · unfold maxLen; omega
  · omega
  · simp; omega
  · intro v' w' hown' hg _ _
    refine h v' w' (by simpa using hown') ?_
    exact ((Fr.refl _ w).alloc _).grown hg (fun k hk => .inl hk)
def gluepotlaw05_CorpusCuts.f (a0 : ByteArray) (l1 : List Int) (a2 : Int) : Option Bool := if a0.size ≤ maxLen ∧ ∀ x ∈ l1, 0 ≤ x ∧ x < 65536 then some true else none
set_option maxHeartbeats 4000000 in
set_option maxRecDepth 100000 in
theorem gluepotlaw05_CorpusCuts.calls (a0 : ByteArray) (A1 : Option Addr) (c1 : Nat) (l1 : List Int) (a2 : Int) (r : Bool) (w : World) (hr1 : Kd.C (Kd.int .u16) w A1 l1.length l1) (hc1 : l1.length ≤ c1) (h : gluepotlaw05_CorpusCuts.f a0 l1 a2 = some r) :
    Calls Try.prog 11 #[.string a0, .slice A1 l1.length c1, .int .i64 a2] w fun e w' => e = .returned (.bool r) ∧ Below w.heap.size w w' := by
  unfold gluepotlaw05_CorpusCuts.f at h
  split at h
  · rename_i hcond
    cases h
    obtain ⟨hsz, hu16⟩ := hcond
    have HC := Lib.hid hr1
    have HU := Lib.hid hu16
    clear hr1 hu16
    go_enter Try.func11, Try.ntmps11
    go_wp2_with fail
    refine (gluepotlaw05_awake.calls true _ rfl).mono ?_
    rintro e w1 ⟨rfl, hb1⟩
    have HB1 := Lib.hid hb1
    clear hb1
    by_cases hbig : 3000 < a0.size
    · go_wp2_with fail
      go_ret
      exact ⟨rfl, HB1.out⟩
    · by_cases hbig2 : 100 < l1.length
      · go_wp2_with fail
        go_ret
        exact ⟨rfl, HB1.out⟩
      · have HF1 := Lib.hid (Fr.ofBelow (S := fun _ => False) HB1.out)
        have HCw := Lib.hid (Kd.C_below HC.out HB1.out)
        have hlen : a0.data.toList.length = a0.size := by simp
        clear HC HB1
        go_wp2_with fail
        go_loopw [7, 8, 9] (fun v7 v8 v9 wr => ∃ (i pos : Nat) (P : List ByteArray), i ≤ l1.length ∧ pos ≤ a0.size ∧ P.length ≤ i ∧ v8 = .int .i64 pos ∧ v9 = .int .i64 i ∧ Pure.wholeL P = a0.data.toList.take pos ∧ wr.ownsRow w1.heap.size Cor.TX 1 v7 P.length (P.map Value.string) ∧ Fr (fun _ => False) w1 wr) (fun _ _ v9 _ => l1.length - (intOf v9).toNat)
        case atStart => exact ⟨0, 0, [], Nat.zero_le _, Nat.zero_le _, Nat.le_refl _, rfl, rfl, rfl, ⟨rfl, .inl ⟨rfl, rfl⟩⟩, Fr.refl _ _⟩
        case round =>
          obtain ⟨i, pos, P, hi, hpos, hPi, rfl, rfl, hPw, hown, hfr⟩ := hrel
          have HPW := Lib.hid hPw
          have HO := Lib.hid hown
          have HF := Lib.hid hfr
          clear hPw hown hfr
          by_cases hgo : i < l1.length ∧ pos < a0.size
          · obtain ⟨hi2, hp2⟩ := hgo
            obtain ⟨ad, rfl, hcell⟩ := Kd.at_int HCw.out (i : Int) (by omega) (by omega)
            have hrng := HU.out (rd l1 (i : Int)) (by unfold rd; rw [List.getD_eq_getElem?_getD, List.getElem?_eq_getElem (by omega)]; exact List.getElem_mem _)
            have hcell2 := HF.out.cell hcell (fun h => h)
            rw [Int.toNat_natCast] at hcell2
            generalize rd l1 (i : Int) = x at *
            have hz1 := Int.emod_nonneg x (show ((a0.size : Int) - pos + 1) ≠ 0 by omega)
            have hz2 := Int.emod_lt_of_pos x (show 0 < ((a0.size : Int) - pos + 1) by omega)
            obtain ⟨z, hz⟩ : ∃ z : Nat, wrap64 ((pos : Int) + x % ((a0.size : Int) - pos + 1)) = (z : Int) ∧ pos ≤ z ∧ z ≤ a0.size := by
              generalize x % ((a0.size : Int) - pos + 1) = y at *
              refine ⟨pos + y.toNat, ?_, by omega, by omega⟩
              unfold wrap64
              omega
            obtain ⟨hz, hzp, hzs⟩ := hz
            have hPz : Pure.wholeL (P ++ [a0.extract pos z]) = a0.data.toList.take z := by
              rw [Pure.whole_app, HPW.out, show Pure.wholeL [a0.extract pos z] = (a0.extract pos z).data.toList by simp [Pure.wholeL], Pure.extract_list]
              rw [show a0.data.toList.take z = a0.data.toList.take (pos + (z - pos)) by rw [show pos + (z - pos) = z by omega], List.take_add]
            have HPZ := Lib.hid hPz
            obtain ⟨A7, c7, rfl⟩ := Bs.own_slice HO.out
            clear hcell hz1 hz2 hPz
            go_wp2_with (at_builtin; refine append_one rfl _ _ rfl w1.heap.size (.slice A7 P.length c7) P (a0.extract pos z) rfl rfl HO.out HF.out.size (by omega) ?_)
            intro v4 w4 hown4 hfr4
            have HO4 := Lib.hid (show w4.ownsRow w1.heap.size Cor.TX 1 v4 (P ++ [a0.extract pos z]).length ((P ++ [a0.extract pos z]).map Value.string) by simpa using hown4)
            have HF4 := Lib.hid (HF.out.trans hfr4 (fun k hk => .inr (own_lt HO.out hk).1))
            clear hown4 hfr4
            go_wp2_with fail
            exact ⟨⟨i + 1, z, P ++ [a0.extract pos z], by omega, hzs, by simp; omega, rfl, by go_num, HPZ.out, HO4.out, HF4.out⟩, by simp [intOf]; omega⟩
          · have hPz : Pure.wholeL (P ++ [a0.extract pos a0.size]) = a0.data.toList := by
              rw [Pure.whole_app, HPW.out, show Pure.wholeL [a0.extract pos a0.size] = (a0.extract pos a0.size).data.toList by simp [Pure.wholeL], Pure.extract_list, ← hlen]
              rw [show (a0.data.toList.drop pos).take (a0.data.toList.length - pos) = a0.data.toList.drop pos from List.take_of_length_le (by simp), List.take_append_drop]
            have HPZ := Lib.hid hPz
            obtain ⟨A7, c7, rfl⟩ := Bs.own_slice HO.out
            clear hPz
            go_wp2_with (at_builtin; refine append_one rfl _ _ rfl w1.heap.size (.slice A7 P.length c7) P (a0.extract pos a0.size) rfl rfl HO.out HF.out.size (by omega) ?_)
            all_goals
              intro v4 w4 hown4 hfr4
              obtain ⟨P2, hP2⟩ : ∃ P2, P2 = P ++ [a0.extract pos a0.size] := ⟨_, rfl⟩
              have hl2 : P2.length = P.length + 1 := by rw [hP2]; simp
              have hown5 : w4.ownsRow w1.heap.size Cor.TX 1 v4 P2.length (P2.map Value.string) := by rw [hP2]; simpa using hown4
              have hw2 : Pure.wholeL P2 = a0.data.toList := by rw [hP2]; exact HPZ.out
              obtain ⟨A4, c4, rfl⟩ := Bs.own_slice hown5
              have hR4 : Kd.R Kd.string 9 w4 w1.heap.size (fun _ => True) (.slice A4 P2.length c4) P2 := Kd.R_of_own hown5 (fun _ _ => trivial)
              have HC4 := Lib.hid (Kd.R_reads' hR4).2.2
              have HF4 := Lib.hid (HF1.out.trans (HF.out.trans hfr4 (fun k hk => .inr (own_lt HO.out hk).1)) (fun _ h => h.elim))
              obtain ⟨ht1, ht2⟩ := Cor.told_neg P2 0
              have hPl : P2.length ≤ 101 := by omega
              obtain ⟨E, Y, hRD⟩ : ∃ E Y, Cor.RD a2 a0.data.toList 0 = (E, Y) := ⟨_, _, rfl⟩
              have hYl : Y.length ≤ 3001 := by
                have h1 : Y.length ≤ a0.data.toList.length + 1 := by have := Cor.RD_len a2 a0.data.toList 0; rw [hRD] at this; exact this
                omega
              have hYw : E = 0 → Y = (Pure.wordsW [] a0.data.toList).map mkB := fun h0 => by
                have := Cor.RD_words (lim := a2) (S := a0.data.toList) (err := 0) (by rw [hRD]; exact h0) rfl
                rw [hRD] at this
                exact this
              have hra : ∀ (b : Nat) (ob : Option Nat) (W : World), Src.Scr w4.heap.size b ob P2 0 (-1) W → Calls Try.prog 40 #[.iface Src.PC (.pointer (some ⟨b, 0, none⟩)), .int .i64 a2] W fun e w' => Fr (fun k => k = b ∨ ob = some k) W w' ∧ ∃ A c, e = .returned (.tuple #[.slice A Y.length c, .int .i64 E]) ∧ Y.length ≤ c ∧ Kd.C Kd.string w' A Y.length Y :=
                fun b ob W hs => Cor.read_any (Cor.scrS w4.heap.size b ob P2 (-1) (by omega)) (Src.told (-1) 0 P2).1 0 a2 (fun k => k = b ∨ ob = some k) W E Y ⟨0, Nat.zero_le _, Prod.ext rfl ht1, hs, fun k => Iff.rfl⟩ (by rw [ht2, hw2, hlen]; omega) (by rw [ht2, hw2]; exact hRD)
              have hrb : ∀ (b : Nat) (W : World), Src.PlainAt b a0 W → Calls Try.prog 40 #[.iface Src.PP (.pointer (some ⟨b, 0, none⟩)), .int .i64 a2] W fun e w' => Fr (fun k => k = b) W w' ∧ ∃ A c, e = .returned (.tuple #[.slice A Y.length c, .int .i64 E]) ∧ Y.length ≤ c ∧ Kd.C Kd.string w' A Y.length Y :=
                fun b W hs => Cor.read_any (Cor.plainS b) (Src.plain a0).toList 0 a2 (fun k => k = b) W E Y ⟨rfl, ⟨a0, hs, rfl⟩, fun k => Iff.rfl⟩ (by rw [Cor.plain_whole, hlen]; omega) (by rw [Cor.plain_whole]; exact hRD)
              have HRA := Lib.hid hra
              have HRB := Lib.hid hrb
              have HYW := Lib.hid hYw
              clear hP2 hl2 hown4 hown5 hw2 hR4 ht1 ht2 hra hrb hYw hRD HPW HPZ HO HF hgo hfr4 HCw HU
              go_wp2_with fail
              refine (Src.new_c _ _ P2 (-1) _ HC4.out (by omega)).mono ?_
              rintro e w5 ⟨b, ob, rfl, hs5, hf5⟩
              have HS5 := Lib.hid hs5
              have HF5 := Lib.hid (HF4.out.trans hf5 (fun _ h => h.elim))
              have HWB := Lib.hid (show ∀ k, (k = b ∨ ob = some k) → w.heap.size ≤ k from fun k hk => Nat.le_trans HF4.out.size (hk.elim (fun e => by rw [e]; exact hs5.le) (fun e => (hs5.row e).1)))
              clear hs5 hf5
              go_wp2_with fail
              refine (HRA.out b ob _ HS5.out).mono ?_
              rintro e w6 ⟨hf6, A6, c6, rfl, hc6, hC6⟩
              have HF6 := Lib.hid (HF5.out.trans hf6 (fun k hk => .inr (HWB.out k hk)))
              have HC6 := Lib.hid hC6
              clear hf6 hC6 HRA
              go_wp2_with fail
              refine (HRB.out _ _ (heap_new _ _)).mono ?_
              rintro e w7 ⟨hf7, A7, c7, rfl, hc7, hC7⟩
              have hb7 : Fr (fun _ => False) w6 w7 := ((Fr.refl _ w6).alloc _).trans hf7 (fun k hk => .inr (by rw [hk]; exact Nat.le_refl _))
              have HF7 := Lib.hid (HF6.out.trans hb7 (fun _ h => h.elim))
              have HC67 := Lib.hid (Kd.C_below HC6.out (hb7.toBelow (fun _ h => h.elim) (Nat.le_refl _)))
              have HC7 := Lib.hid hC7
              clear hf7 hC7 HRB hb7
              go_wp2_with fail
              refine (gluepotref01_Texts.calls (Y.length + 1) A6 c6 Y A7 c7 Y true _ HC67.out hc6 HC7.out hc7 (Pure.texts_same _ (by omega) (Nat.le_refl _))).mono ?_
              rintro e w8 ⟨rfl, ⟨q8, hq8⟩⟩
              have hf8 : Fr (fun _ => False) w7 w8 := by rw [hq8]; exact (Fr.refl _ w7).drewN q8
              have HF8 := Lib.hid (HF7.out.trans hf8 (fun _ h => h.elim))
              have HC8 := Lib.hid (Kd.C_below HC7.out (hf8.toBelow (fun _ h => h.elim) (Nat.le_refl _)))
              clear hq8 hf8
              by_cases h0 : E = 0
              · have hY := HYW.out h0
                have hwd := Pure.refwords_f (k := 10000) a0 (by omega) (by omega)
                rw [← hY] at hwd
                have HWD := Lib.hid hwd
                subst h0
                clear hY hwd
                go_wp2_with fail
                refine (gluepotref03_Words.calls 10000 _ _ _ HWD.out).mono ?_
                rintro e w9 ⟨v9, rfl, hR9, hb9⟩
                obtain ⟨A9, p9, rfl, hp9, hC9⟩ := Kd.R_reads hR9
                have HF9 := Lib.hid (HF8.out.below hb9)
                have HC89 := Lib.hid (Kd.C_below HC8.out hb9)
                have HC9 := Lib.hid hC9
                clear hb9 hC9 hR9
                go_wp2_with fail
                refine (gluepotref01_Texts.calls (Y.length + 1) A7 c7 Y A9 p9 Y true _ HC89.out hc7 HC9.out hp9 (Pure.texts_same _ (by omega) (Nat.le_refl _))).mono ?_
                rintro e w10 ⟨rfl, ⟨q10, hq10⟩⟩
                have HF10 := Lib.hid (show Fr (fun _ => False) w w10 from by rw [hq10]; exact HF9.out.drewN q10)
                clear hq10
                go_wp2_with fail
                go_ret
                exact ⟨rfl, HF10.out.toBelow (fun _ h => h.elim) (Nat.le_refl _)⟩
              · go_wp2_with fail
                go_ret
                exact ⟨rfl, HF8.out.toBelow (fun _ h => h.elim) (Nat.le_refl _)⟩
  · cases h
end Go.Proofs.Ytmldibphbilghaa.Pr

namespace Go.Proofs.Ytmldibphbilghaa.Cor
open Go.RowKit Go.Proofs.Ytmldibphbilghaa.Bs Go.Proofs.YtmldibphbilghaaW.PrintWords Go.Proofs.Ytmldibphbilghaa.Pr
set_option linter.unusedVariables false
set_option linter.unusedSimpArgs false
/-- The error, and the words. -/
def VW (lim : Int) (S : List UInt8) (err : Int) : Int × List ByteArray :=
  if lim < 1 ∨ 65536 < lim then (2, []) else
  if (Spl.feedL lim [] S []).2.1 = true then (if err = 0 then (0, (Pure.wordsW [] S).map mkB) else (err, (Spl.feedL lim [] S []).1.map mkB)) else (4, (Spl.feedL lim [] S []).1.map mkB)
theorem VW_RD (lim : Int) (S : List UInt8) (err : Int) : RD lim S err = ((VW lim S err).1, if (VW lim S err).1 = 0 then (VW lim S err).2 else []) := by
  unfold RD VW
  by_cases h1 : lim < 1 ∨ 65536 < lim
  · simp [h1]
  · rw [if_neg h1, if_neg h1]
    by_cases h2 : (Spl.feedL lim [] S []).2.1 = true
    · rw [if_pos h2, if_pos h2]
      by_cases h3 : err = 0
      · simp [h3]
      · simp [h3]
    · rw [if_neg h2, if_neg h2]
      simp
theorem VW_each (lim : Int) (r : List ByteArray) (err : Int) (h : ¬ (lim < 1 ∨ 65536 < lim)) : eachL lim (fun _ _ => true) err [] [] 0 r = ((VW lim (Pure.wholeL r) err).2.length, (VW lim (Pure.wholeL r) err).1, (VW lim (Pure.wholeL r) err).2) := by
  rw [each_all]
  unfold VW
  rw [if_neg h]
  by_cases h2 : (Spl.feedL lim [] (Pure.wholeL r) []).2.1 = true
  · rw [if_pos h2, if_pos h2]
    by_cases h3 : err = 0
    · rw [if_pos h3, if_pos h3]
      have hw := feed_ok_W lim (Pure.wholeL r) [] [] h2
      rw [List.nil_append] at hw
      rw [hw, ← hw]
      simp
    · rw [if_neg h3, if_neg h3]
      simp
  · rw [if_neg h2, if_neg h2]
    simp
theorem VW_len (lim : Int) (S : List UInt8) (err : Int) : (VW lim S err).2.length ≤ S.length + 1 := by
  have h1 := Pure.wordsW_len S []
  have h2 := (feed_len2 lim S []).1
  unfold VW
  split
  · simp
  · split
    · split
      · simp; omega
      · simp; omega
    · simp; omega
def RPost (w : World) (E : Int) (W : List ByteArray) (e : Ending) (w' : World) : Prop := ∃ A c, e = .returned (.tuple #[.slice A W.length c, .int .i64 E]) ∧ W.length ≤ c ∧ Kd.C Kd.string w' A W.length W ∧ Below w.heap.size w w'
set_option maxHeartbeats 4000000 in
set_option maxRecDepth 100000 in
theorem ref_read (A0 : Option Addr) (c0 : Nat) (l : List ByteArray) (fail lim : Int) (w : World) (hr : Kd.C Kd.string w A0 l.length l) (hc0 : l.length ≤ c0) (hl : l.length ≤ 100) (hs : (Pure.wholeL l).length ≤ 3000) (E : Int) (W : List ByteArray)
    (hV : VW lim (Pure.wholeL (Src.told fail 0 l).1) (Src.told fail 0 l).2 = (E, W)) :
    Calls Try.prog 39 #[.slice A0 l.length c0, .int .i64 fail, .int .i64 lim] w (RPost w E W) := by
  have hto := Pure.reftold_f (k := 200) l fail (by omega) (by omega)
  obtain ⟨hb1, hb2⟩ := Pure.told_len fail l 0
  generalize Src.told fail 0 l = T at *
  obtain ⟨tw, te⟩ := T
  unfold VW at hV
  have HC := Lib.hid hr
  have HTO := Lib.hid hto
  clear hr hto
  go_enter Try.func39, Try.ntmps39
  by_cases hc : lim < 1 ∨ 65536 < lim
  · rw [if_pos hc] at hV
    cases hV
    rcases hc with hc | hc
    · go_wp2_with fail
      go_ret2
      exact ⟨none, 0, rfl, Nat.le_refl _, nil_reads _, Below.refl _ _⟩
    · have h2 : ¬ lim < 1 := by omega
      go_wp2_with fail
      go_ret2
      exact ⟨none, 0, rfl, Nat.le_refl _, nil_reads _, Below.refl _ _⟩
  · rw [if_neg hc] at hV
    have hc1 : ¬ lim < 1 := by omega
    have hc2 : ¬ 65536 < lim := by omega
    have HV := Lib.hid hV
    clear hV hc
    go_wp2_with fail
    refine (gluepotref04_Told.calls 200 A0 c0 l fail tw te _ HC.out hc0 HTO.out).mono ?_
    rintro e w1 ⟨v1, rfl, hR1, hbl1⟩
    obtain ⟨A1, c1, rfl, hp1, hC1⟩ := Kd.R_reads hR1
    have hb1' : (Pure.wholeL tw).length ≤ 3000 := Nat.le_trans hb1 hs
    have hb2' : tw.length ≤ 100 := Nat.le_trans hb2 hl
    have HWH := Lib.hid (Pure.refwhole_f (k := 200) tw (by omega) (by omega) (by omega))
    have HC1 := Lib.hid hC1
    have HB1 := Lib.hid hbl1
    clear hR1 hC1 hbl1 hb1 hb2 HTO
    go_wp2_with fail
    refine (gluepotref03_Whole.calls 200 A1 c1 tw _ _ HC1.out hp1 HWH.out).mono ?_
    rintro e w2 ⟨rfl, ⟨q2, hq2⟩⟩
    have HB2 := Lib.hid (show Below w.heap.size w w2 from by rw [hq2]; exact (((Fr.ofBelow (S := fun _ => False) HB1.out).drewN q2).toBelow (fun _ h => h.elim) (Nat.le_refl _)))
    clear hq2 HB1 HWH HC1
    obtain ⟨S, hS⟩ : ∃ S, S = Pure.wholeL tw := ⟨_, rfl⟩
    rw [← hS] at HV hb1' ⊢
    clear hS
    have hsz : (mkB S).size = S.length := Pure.mkB_size' S
    have hd : (mkB S).data.toList = S := by simp [mkB]
    have hlg := Pure.reflong_f (k := 4000) (mkB S) lim (by omega) (by omega)
    rw [hd] at hlg
    have HLG := Lib.hid hlg
    have HD := Lib.hid hd
    clear hlg hd
    -- the ended words of a text C
    have hend : ∀ (C : List UInt8) (hC : C.length ≤ 3000) (hok : (Spl.feedL lim [] C []).2.1 = true), gluepotref03_Open.f 4000 (mkB C) = some ((Pure.openR C : Nat) : Int) ∧ Pure.openR C ≤ C.length ∧ gluepotref03_Words.f 10000 (mkB (C.take (C.length - Pure.openR C))) = some ((Spl.feedL lim [] C []).1.map mkB) := by
      intro C hC hok
      obtain ⟨f1, f2⟩ := Pure.fed lim C hok
      have hsz : (mkB C).size = C.length := Pure.mkB_size' C
      have hd : (mkB C).data.toList = C := by simp [mkB]
      have hor : Pure.openR C ≤ C.length := by
        have := (feed_len2 lim C []).2
        rw [← f1] at this
        simpa using this
      have ho := Pure.refopen_f (k := 4000) (mkB C) (by omega) (by omega)
      rw [hd] at ho
      have hwd := Pure.refwords_f (k := 10000) (mkB (C.take (C.length - Pure.openR C))) (by rw [Pure.mkB_size']; simp; omega) (by rw [Pure.mkB_size']; simp; omega)
      rw [show (mkB (C.take (C.length - Pure.openR C))).data.toList = C.take (C.length - Pure.openR C) by simp [mkB], f2] at hwd
      exact ⟨ho, hor, hwd⟩
    cases hx : Pure.longL lim 0 S with
    | some j =>
      obtain ⟨hj1, hokj, hbad⟩ := Pure.long_some lim S [] [] j hx
      have hg : Pure.longI lim S = (j : Int) := by rw [Pure.longI, hx]
      rw [hg] at HLG
      have hV := HV.out
      rw [hbad, if_neg (by simp)] at hV
      obtain ⟨CL, hCL⟩ : ∃ CL, CL = S.take j := ⟨_, rfl⟩
      have hCl : CL.length = j := by rw [hCL, List.length_take]; omega
      rw [← hCL] at hokj hV
      obtain ⟨e1, e2, e3⟩ := hend CL (by omega) hokj
      have HCL := Lib.hid hCL
      have HE1 := Lib.hid e1
      have hV1 : E = 4 := by injection hV with h _; exact h.symm
      have hV2 : (Spl.feedL lim [] CL []).1.map mkB = W := by injection hV
      rw [hV2] at e3
      obtain ⟨n1, hn1⟩ : ∃ n1, n1 = Pure.openR CL := ⟨_, rfl⟩
      rw [← hn1] at e2 e3 HE1
      have HE3 := Lib.hid e3
      have hlenc : (mkB CL).size = CL.length := Pure.mkB_size' CL
      subst hV1
      clear hx hg hbad hV hCL e1 e3 hend hV2 hn1 hokj HV
      go_wp2_with fail
      refine (gluepotref03_Long.calls 4000 (mkB S) lim _ _ HLG.out).mono ?_
      rintro e w3 ⟨rfl, ⟨q3, hq3⟩⟩
      have HB3 := Lib.hid (show Below w.heap.size w w3 from by rw [hq3]; exact (((Fr.ofBelow (S := fun _ => False) HB2.out).drewN q3).toBelow (fun _ h => h.elim) (Nat.le_refl _)))
      clear hq3
      go_wp2_with fail
      rw [Pure.ext_take, ← HCL.out]
      refine (gluepotref03_Open.calls 4000 (mkB CL) _ _ HE1.out).mono ?_
      rintro e w4 ⟨rfl, ⟨q4, hq4⟩⟩
      have HB4 := Lib.hid (show Below w.heap.size w w4 from by rw [hq4]; exact (((Fr.ofBelow (S := fun _ => False) HB3.out).drewN q4).toBelow (fun _ h => h.elim) (Nat.le_refl _)))
      clear hq4
      have hsl : ((CL.length : Int) - (n1 : Int)) = ((CL.length - n1 : Nat) : Int) := by omega
      go_wp2_with fail
      rw [Pure.ext_take, show min j S.length - n1 = CL.length - n1 by omega]
      refine (gluepotref03_Words.calls 10000 _ _ _ HE3.out).mono ?_
      rintro e w5 ⟨v5, rfl, hR5, hb5⟩
      obtain ⟨A5, p5, rfl, hp5, hC5⟩ := Kd.R_reads hR5
      have HB5 := Lib.hid (below_step HB4.out hb5)
      have HC5 := Lib.hid hC5
      clear hb5 hC5 hR5
      go_wp2_with fail
      go_ret2
      exact ⟨A5, p5, rfl, hp5, HC5.out, HB5.out⟩
    | none =>
      have hok : (Spl.feedL lim [] S []).2.1 = true := (Pure.long_none lim S [] []).2 hx
      have hg : Pure.longI lim S = -1 := by rw [Pure.longI, hx]
      rw [hg] at HLG
      have hV := HV.out
      rw [if_pos hok] at hV
      by_cases he : te = 0
      · rw [if_pos he] at hV
        have hwd := Pure.refwords_f (k := 10000) (mkB S) (by omega) (by omega)
        rw [HD.out] at hwd
        have hV1 : E = 0 := by injection hV with h _; exact h.symm
        have hV2 : (Pure.wordsW [] S).map mkB = W := by injection hV
        rw [hV2] at hwd
        have HWD := Lib.hid hwd
        subst hV1 he
        clear hV hV2 hwd hend hx hg HV hok
        go_wp2_with fail
        refine (gluepotref03_Long.calls 4000 (mkB S) lim _ _ HLG.out).mono ?_
        rintro e w3 ⟨rfl, ⟨q3, hq3⟩⟩
        have HB3 := Lib.hid (show Below w.heap.size w w3 from by rw [hq3]; exact (((Fr.ofBelow (S := fun _ => False) HB2.out).drewN q3).toBelow (fun _ h => h.elim) (Nat.le_refl _)))
        clear hq3
        go_wp2_with fail
        refine (gluepotref03_Words.calls 10000 _ _ _ HWD.out).mono ?_
        rintro e w5 ⟨v5, rfl, hR5, hb5⟩
        obtain ⟨A5, p5, rfl, hp5, hC5⟩ := Kd.R_reads hR5
        have HB5 := Lib.hid (below_step HB3.out hb5)
        have HC5 := Lib.hid hC5
        clear hb5 hC5 hR5
        go_wp2_with fail
        go_ret2
        exact ⟨A5, p5, rfl, hp5, HC5.out, HB5.out⟩
      · rw [if_neg he] at hV
        obtain ⟨e1, e2, e3⟩ := hend S hb1' hok
        have HE1 := Lib.hid e1
        have hV1 : E = te := by injection hV with h _; exact h.symm
        have hV2 : (Spl.feedL lim [] S []).1.map mkB = W := by injection hV
        rw [hV2] at e3
        obtain ⟨n1, hn1⟩ : ∃ n1, n1 = Pure.openR S := ⟨_, rfl⟩
        rw [← hn1] at e2 e3 HE1
        have HE3 := Lib.hid e3
        subst hV1
        clear hV hV2 e1 e3 hend hx hg HV hok hn1
        go_wp2_with fail
        refine (gluepotref03_Long.calls 4000 (mkB S) lim _ _ HLG.out).mono ?_
        rintro e w3 ⟨rfl, ⟨q3, hq3⟩⟩
        have HB3 := Lib.hid (show Below w.heap.size w w3 from by rw [hq3]; exact (((Fr.ofBelow (S := fun _ => False) HB2.out).drewN q3).toBelow (fun _ h => h.elim) (Nat.le_refl _)))
        clear hq3
        go_wp2_with fail
        refine (gluepotref03_Open.calls 4000 (mkB S) _ _ HE1.out).mono ?_
        rintro e w4 ⟨rfl, ⟨q4, hq4⟩⟩
        have HB4 := Lib.hid (show Below w.heap.size w w4 from by rw [hq4]; exact (((Fr.ofBelow (S := fun _ => False) HB3.out).drewN q4).toBelow (fun _ h => h.elim) (Nat.le_refl _)))
        clear hq4
        have hsl : ((S.length : Int) - (n1 : Int)) = ((S.length - n1 : Nat) : Int) := by omega
        go_wp2_with fail
        rw [Pure.ext_take]
        refine (gluepotref03_Words.calls 10000 _ _ _ HE3.out).mono ?_
        rintro e w5 ⟨v5, rfl, hR5, hb5⟩
        obtain ⟨A5, p5, rfl, hp5, hC5⟩ := Kd.R_reads hR5
        have HB5 := Lib.hid (below_step HB4.out hb5)
        have HC5 := Lib.hid hC5
        clear hb5 hC5 hR5
        go_wp2_with fail
        go_ret2
        exact ⟨A5, p5, rfl, hp5, HC5.out, HB5.out⟩
end Go.Proofs.Ytmldibphbilghaa.Cor

namespace Go.Proofs.Ytmldibphbilghaa.Pure
open Go.RowKit Go.Proofs.Ytmldibphbilghaa.Pr
theorem great5_eq : ∀ (k : Nat) (L : List ByteArray) (x i : Int), gluepotlaw05_great.l0 k L x i = gluepotlaw03_great.l0 k L x i
  | 0, L, x, i => by rw [gluepotlaw05_great.l0, gluepotlaw03_great.l0]
  | k + 1, L, x, i => by rw [gluepotlaw05_great.l0, gluepotlaw03_great.l0, great5_eq k]
theorem great5_f (L : List ByteArray) (hL : L.length ≤ 9223372036854775807) : ∃ k b, gluepotlaw05_great.f k L = some b ∧ (b = false → L.length ≤ 100 ∧ (wholeL L).length ≤ 3000) := by
  obtain ⟨k, b, h1, h2⟩ := great_f L hL
  exact ⟨k, b, by rw [gluepotlaw05_great.f, great5_eq]; exact h1, h2⟩
end Go.Proofs.Ytmldibphbilghaa.Pure
namespace Go.Proofs.Ytmldibphbilghaa.Cor
open Go.RowKit Go.Proofs.Ytmldibphbilghaa.Bs Go.Proofs.YtmldibphbilghaaW.PrintWords Go.Proofs.Ytmldibphbilghaa.Pr
set_option linter.unusedVariables false
set_option linter.unusedSimpArgs false
/-- Each, of a Script, with the function that appends; at any limit. -/
theorem each_got (B b : Nat) (ob : Option Nat) (l : List ByteArray) (fail lim : Int) (bc : Nat) (w : World) (hs : Src.Scr B b ob l 0 fail w) (hl : l.length ≤ 100) (hw : (Pure.wholeL l).length ≤ 3000) (hb : App bc [] (fun k => k = bc) w) (hd : b ≠ bc ∧ ob ≠ some bc) (E : Int) (W : List ByteArray)
    (hV : VW lim (Pure.wholeL (Src.told fail 0 l).1) (Src.told fail 0 l).2 = (E, W)) :
    Calls Try.prog 41 #[.iface Src.PC (.pointer (some ⟨b, 0, none⟩)), .int .i64 lim, .func (.func 42) #[] #[.pointer (some ⟨bc, 0, none⟩)]] w fun e w' => e = .returned (.tuple #[.int .i64 W.length, .int .i64 E]) ∧
      (∃ M, App bc W M w') ∧ Fr (fun k => (k = b ∨ ob = some k) ∨ k = bc) w w' := by
  obtain ⟨h1, h2⟩ := Pure.told_len fail l 0
  by_cases hc : lim < 1 ∨ 65536 < lim
  · unfold VW at hV
    rw [if_pos hc] at hV
    cases hV
    refine (each_bad _ _ lim w hc).mono ?_
    rintro e w' ⟨rfl, rfl⟩
    exact ⟨rfl, ⟨_, hb⟩, Fr.refl _ _⟩
  · have he := VW_each lim (Src.told fail 0 l).1 (Src.told fail 0 l).2 hc
    rw [hV] at he
    have := each_c (scrS B b ob l fail (by omega)) (HD.ofCB (cb_got bc)) (Src.told fail 0 l).1 (Src.told fail 0 l).2 lim [] (fun k => k = b ∨ ob = some k) (fun k => k = bc) w ⟨0, Nat.zero_le _, rfl, hs, fun k => Iff.rfl⟩ hb (fun k hk e => by
      subst e
      exact hk.elim (fun e => hd.1 e.symm) hd.2) (by omega) (by omega) (by simp; omega)
    rw [he] at this
    refine this.mono ?_
    rintro e w' ⟨rfl, M', hst, hf, _⟩
    exact ⟨rfl, ⟨M', hst⟩, hf⟩
/-- Each, of a Script, with the function that counts; at any limit. -/
theorem each_cnt (B b : Nat) (ob : Option Nat) (l : List ByteArray) (fail lim : Int) (bk bf few : Nat) (w : World) (hs : Src.Scr B b ob l 0 fail w) (hl : l.length ≤ 100) (hw : (Pure.wholeL l).length ≤ 3000) (hf1 : few < 256) (hb : Cnt bk bf few [] (fun k => k = bk ∨ k = bf) w)
    (hd : ∀ k, (k = b ∨ ob = some k) → ¬ (k = bk ∨ k = bf)) (E : Int) (W : List ByteArray) (hV : VW lim (Pure.wholeL (Src.told fail 0 l).1) (Src.told fail 0 l).2 = (E, W)) :
    Calls Try.prog 41 #[.iface Src.PC (.pointer (some ⟨b, 0, none⟩)), .int .i64 lim, .func (.func 43) #[] #[.pointer (some ⟨bk, 0, none⟩), .pointer (some ⟨bf, 0, none⟩)]] w fun e w' => ∃ (m : Nat) (h : Int), e = .returned (.tuple #[.int .i64 m, .int .i64 h]) ∧
      w'.cell? ⟨bk, 0, none⟩ = some (.int .i64 m) ∧ w'.cell? ⟨bf, 0, none⟩ = some (.int .u8 few) ∧ Fr (fun k => (k = b ∨ ob = some k) ∨ (k = bk ∨ k = bf)) w w' ∧ ((few < W.length ∧ m = few + 1 ∧ h = 0) ∨ (W.length ≤ few ∧ m = W.length ∧ h = E)) := by
  obtain ⟨h1, h2⟩ := Pure.told_len fail l 0
  by_cases hc : lim < 1 ∨ 65536 < lim
  · unfold VW at hV
    rw [if_pos hc] at hV
    cases hV
    refine (each_bad _ _ lim w hc).mono ?_
    rintro e w' ⟨rfl, rfl⟩
    exact ⟨0, 2, rfl, by rw [cell_heap hb.1]; rfl, by rw [cell_heap hb.2.1]; rfl, Fr.refl _ _, .inr ⟨Nat.zero_le _, rfl, rfl⟩⟩
  · have he := VW_each lim (Src.told fail 0 l).1 (Src.told fail 0 l).2 hc
    rw [hV] at he
    have hfw := each_few lim (Src.told fail 0 l).2 few (Src.told fail 0 l).1 [] [] (Nat.zero_le _)
    rw [show ([] : List ByteArray).length = 0 from rfl, he] at hfw
    have := each_c (scrS B b ob l fail (by omega)) (HD.ofCB (cb_cnt bk bf few (by omega) (by omega))) (Src.told fail 0 l).1 (Src.told fail 0 l).2 lim [] (fun k => k = b ∨ ob = some k) (fun k => k = bk ∨ k = bf) w ⟨0, Nat.zero_le _, rfl, hs, fun k => Iff.rfl⟩ hb hd (by omega) (by omega) (by simp; omega)
    refine this.mono ?_
    rintro e w' ⟨rfl, M', hst, hf, _⟩
    have hst2 : Cnt bk bf few (eachL lim (upTo few) (Src.told fail 0 l).2 [] [] 0 (Src.told fail 0 l).1).2.2 M' w' := hst
    refine ⟨(eachL lim (upTo few) (Src.told fail 0 l).2 [] [] 0 (Src.told fail 0 l).1).1, (eachL lim (upTo few) (Src.told fail 0 l).2 [] [] 0 (Src.told fail 0 l).1).2.1, rfl, ?_, by rw [cell_heap hst2.2.1]; rfl, hf, ?_⟩
    · rw [cell_heap hst2.1]
      by_cases hlt : W.length ≤ few
      · rw [hfw.1 hlt]; rfl
      · obtain ⟨e1, e2, e3⟩ := hfw.2 (Nat.lt_of_not_le hlt)
        rw [e1, e3]
        rfl
    · by_cases hlt : W.length ≤ few
      · rw [hfw.1 hlt]
        exact .inr ⟨hlt, rfl, rfl⟩
      · obtain ⟨e1, e2, e3⟩ := hfw.2 (Nat.lt_of_not_le hlt)
        rw [e1, e2]
        exact .inl ⟨by omega, rfl, rfl⟩
end Go.Proofs.Ytmldibphbilghaa.Cor
namespace Go.Proofs.Ytmldibphbilghaa.Pr
open Go.RowKit Go.Proofs.Ytmldibphbilghaa.Bs Go.Proofs.YtmldibphbilghaaW.PrintWords Go.Proofs.YtmldibphbilghaaW.PrintLast Go.Proofs.YtmldibphbilghaaW.PrintMore
set_option linter.unusedVariables false
set_option linter.unusedSimpArgs false
def gluepotlaw05_CorpusReads.f (l0 : List ByteArray) (a1 a2 a3 : Int) : Option Bool := if l0.length ≤ 9223372036854775807 ∧ 0 ≤ a3 ∧ a3 < 256 then some true else none
set_option maxHeartbeats 4000000 in
set_option maxRecDepth 100000 in
theorem gluepotlaw05_CorpusReads.calls (A0 : Option Addr) (c0 : Nat) (l0 : List ByteArray) (a1 a2 a3 : Int) (r : Bool) (w : World) (hr0 : Kd.C Kd.string w A0 l0.length l0) (hc0 : l0.length ≤ c0) (h : gluepotlaw05_CorpusReads.f l0 a1 a2 a3 = some r) :
    Calls Try.prog 10 #[.slice A0 l0.length c0, .int .i64 a1, .int .i64 a2, .int .u8 a3] w fun e w' => e = .returned (.bool r) ∧ Below w.heap.size w w' := by
  unfold gluepotlaw05_CorpusReads.f at h
  split at h
  · rename_i hcond
    cases h
    obtain ⟨hcond, hf0, hf1⟩ := hcond
    obtain ⟨few, rfl⟩ : ∃ few : Nat, a3 = few := ⟨a3.toNat, by omega⟩
    have HC := Lib.hid hr0
    clear hr0
    obtain ⟨kg, bg, hgr, hgf⟩ := Pure.great5_f l0 hcond
    have HG := Lib.hid hgr
    clear hgr
    obtain ⟨bf, hbf⟩ : ∃ bf, bf = w.heap.size := ⟨_, rfl⟩
    go_enter Try.func10, Try.ntmps10
    go_wp2_with fail
    refine (gluepotlaw05_awake.calls true _ rfl).mono ?_
    rintro e w1 ⟨rfl, hb1⟩
    have hfa : Fr (fun _ => False) w (w.alloc (.cells #[.int .u8 few] 5)) := (Fr.refl _ w).alloc _
    have HF1 := Lib.hid (hfa.trans (Fr.ofBelow (S := fun _ => False) hb1) (fun _ h => h.elim))
    have hbf1 : w1.heap[w.heap.size]? = some (.cells #[.int .u8 few] 5 (0, 0)) := (Fr.ofBelow (S := fun _ => False) hb1).heap (heap_new w _) (fun h => h)
    rw [← hbf] at hbf1 ⊢
    have HBF1 := Lib.hid hbf1
    have HWF := Lib.hid (show w.heap.size ≤ bf by omega)
    clear hb1 hfa hbf1 hbf
    go_wp2_with fail
    refine (gluepotlaw05_great.calls kg A0 c0 l0 bg _ (Kd.C_below HC.out (HF1.out.toBelow (fun _ h => h.elim) (Nat.le_refl _))) hc0 HG.out).mono ?_
    rintro e w2 ⟨rfl, ⟨q2, hq2⟩⟩
    have hf2 : Fr (fun _ => False) w1 w2 := by rw [hq2]; exact (Fr.refl _ w1).drewN q2
    have HF2 := Lib.hid (HF1.out.trans hf2 (fun _ h => h.elim))
    have HBF2 := Lib.hid (hf2.heap HBF1.out (fun h => h))
    clear hq2 hf2 HG HF1 HBF1
    cases bg with
    | true =>
      go_wp2_with fail
      go_ret
      exact ⟨rfl, HF2.out.toBelow (fun _ h => h.elim) (Nat.le_refl _)⟩
    | false =>
      obtain ⟨hn1, hn2⟩ := hgf rfl
      clear hgf
      obtain ⟨E, W, hV⟩ : ∃ E W, Cor.VW a2 (Pure.wholeL (Src.told a1 0 l0).1) (Src.told a1 0 l0).2 = (E, W) := ⟨_, _, rfl⟩
      have hWl : W.length ≤ 3001 := by
        have h1 := (Pure.told_len a1 l0 0).1
        have h2 : W.length ≤ (Pure.wholeL (Src.told a1 0 l0).1).length + 1 := by have := Cor.VW_len a2 (Pure.wholeL (Src.told a1 0 l0).1) (Src.told a1 0 l0).2; rw [hV] at this; exact this
        omega
      have HV := Lib.hid hV
      have HRF := Lib.hid (Cor.ref_read A0 c0 l0 a1 a2 w2 (Kd.C_below HC.out (HF2.out.toBelow (fun _ h => h.elim) (Nat.le_refl _))) hc0 hn1 hn2 E W hV)
      clear hV
      go_wp2_with fail
      refine HRF.out.mono ?_
      rintro e w3 ⟨A3, c3, rfl, hc3, hC3, hb3⟩
      have HC3 := Lib.hid hC3
      have HF3 := Lib.hid (HF2.out.below hb3)
      have HBF3 := Lib.hid ((Fr.ofBelow (S := fun _ => False) hb3).heap HBF2.out (fun h => h))
      have hbf3 : bf < w3.heap.size := Bs.blk_lt HBF3.out
      clear hC3 hb3 HRF HF2 HBF2
      go_wp2_with fail
      refine (Src.new_c A0 c0 l0 a1 _ (Kd.C_below HC.out (HF3.out.toBelow (fun _ h => h.elim) (Nat.le_refl _))) (by omega)).mono ?_
      rintro e w4 ⟨b, ob, rfl, hs4, hf4⟩
      obtain ⟨Y, hY⟩ : ∃ Y, Y = if E = 0 then W else [] := ⟨_, rfl⟩
      have hRD : Cor.RD a2 (Pure.wholeL (Src.told a1 0 l0).1) (Src.told a1 0 l0).2 = (E, Y) := by rw [Cor.VW_RD, HV.out, hY]
      have hra := Cor.read_any (Cor.scrS w3.heap.size b ob l0 a1 (by omega)) (Src.told a1 0 l0).1 (Src.told a1 0 l0).2 a2 (fun k => k = b ∨ ob = some k) w4 E Y ⟨0, Nat.zero_le _, rfl, hs4, fun k => Iff.rfl⟩ (by have := (Pure.told_len a1 l0 0).1; omega) hRD
      have HRA := Lib.hid hra
      have HG4 := Lib.hid (show ∀ k, (k = b ∨ ob = some k) → w3.heap.size ≤ k from fun k hk => hk.elim (fun e => by rw [e]; exact hs4.le) (fun e => (hs4.row e).1))
      have HG3 := Lib.hid hf4
      clear hs4 hf4 hRD hra
      go_wp2_with fail
      refine HRA.out.mono ?_
      rintro e w5 ⟨hf5, A5, c5, rfl, hc5, hC5⟩
      have HG5 := Lib.hid (HG3.out.trans hf5 (fun k hk => .inr (HG4.out k hk)))
      have HC5 := Lib.hid hC5
      have hmf : ∀ (fn : Fn) (first cap : Array Value) (w : World), (Instr.makeFunc fn first cap).run Try.prog w = .ok (.func fn first cap) w := fun _ _ _ _ => rfl
      clear hf5 hC5 HRA HG3 HG4
      by_cases h0 : E = 0
      case' pos =>
        rw [if_pos h0] at hY
        have hY2 := hY.symm
        subst h0 hY2
        go_wp2_with fail
        refine (gluepotref01_Texts.calls (W.length + 1) A5 c5 W A3 c3 W true _ HC5.out hc5 (Kd.C_below HC3.out (HG5.out.toBelow (fun _ h => h.elim) (Nat.le_refl _))) hc3 (Pure.texts_same _ (by omega) (Nat.le_refl _))).mono ?_
        rintro e w6 ⟨rfl, ⟨q6, hq6⟩⟩
        have HG6 := Lib.hid (show Fr (fun _ => False) w3 w6 from by rw [hq6]; exact HG5.out.drewN q6)
        clear hq6 hY
        go_wp2_with fail
      case' neg =>
        rw [if_neg h0] at hY
        subst hY
        go_wp2_with fail
        obtain ⟨w6, hw6⟩ : ∃ w6, w6 = w5 := ⟨_, rfl⟩
        rw [← hw6]
        have HG6 := Lib.hid (show Fr (fun _ => False) w3 w6 from by rw [hw6]; exact HG5.out)
        clear hw6
      all_goals
        clear HC5 HG5
        have hg7 : Fr (fun _ => False) w3 (w6.alloc (.cells #[.slice none 0 0] 22)) := HG6.out.alloc _
        obtain ⟨bc, hbc⟩ : ∃ bc, bc = w6.heap.size := ⟨_, rfl⟩
        have happ := Cor.App.fresh w6
        rw [← hbc] at happ ⊢
        have HG7 := Lib.hid hg7
        have HAPP := Lib.hid happ
        have hbc3 : w3.heap.size ≤ bc := by rw [hbc]; exact HG6.out.size
        obtain ⟨W7, hW7⟩ : ∃ W7, W7 = w6.alloc (.cells #[.slice none 0 0] 22) := ⟨_, rfl⟩
        have hbc7 : bc < W7.heap.size := by rw [hW7, hbc]; simp
        rw [← hW7] at HG7 HAPP ⊢
        clear hg7 happ hbc hW7 HG6
        refine (Src.new_c A0 c0 l0 a1 _ (Kd.C_below HC.out ((HF3.out.trans HG7.out (fun _ h => h.elim)).toBelow (fun _ h => h.elim) (Nat.le_refl _))) (by omega)).mono ?_
        rintro e w8 ⟨b2, ob2, rfl, hs8, hf8⟩
        have happ8 := HAPP.out.keep hf8 (fun _ _ h => h)
        have HG4 := Lib.hid (show ∀ k, (k = b2 ∨ ob2 = some k) → W7.heap.size ≤ k from fun k hk => hk.elim (fun e => by rw [e]; exact hs8.le) (fun e => (hs8.row e).1))
        have heg := Cor.each_got W7.heap.size b2 ob2 l0 a1 a2 bc w8 hs8 hn1 hn2 happ8 ⟨fun e => by have := HG4.out b2 (.inl rfl); omega, fun e => by have := HG4.out bc (.inr e); omega⟩ _ _ HV.out
        have HEG := Lib.hid heg
        have HG8 := Lib.hid (HG7.out.trans hf8 (fun _ h => h.elim))
        have HS7 := Lib.hid HG7.out.size
        clear hs8 hf8 happ8 heg HAPP HG7
        go_wp2_with fail
        refine HEG.out.mono ?_
        rintro e w9 ⟨rfl, ⟨M, happ⟩, hf9⟩
        obtain ⟨v9, hb9, ho9, _⟩ := happ
        obtain ⟨A9, c9, rfl, hc9, hC9⟩ := own_reads ho9
        have cgot : w9.cell? ⟨bc, 0, none⟩ = some (.slice A9 W.length c9) := by rw [cell_heap hb9]; rfl
        have HG9 := Lib.hid (HG8.out.trans hf9 (fun k hk => .inr (hk.elim (fun e => Nat.le_trans HS7.out (HG4.out k e)) (fun e => by rw [e]; exact hbc3))))
        have HC9 := Lib.hid hC9
        clear hf9 hb9 ho9 hC9 HEG HG8 HG4
        go_wp2_with fail
        refine (gluepotref01_Texts.calls (W.length + 1) A9 c9 W A3 c3 W true _ HC9.out hc9 (Kd.C_below HC3.out (HG9.out.toBelow (fun _ h => h.elim) (Nat.le_refl _))) hc3 (Pure.texts_same _ (by omega) (Nat.le_refl _))).mono ?_
        rintro e w10 ⟨rfl, ⟨q10, hq10⟩⟩
        have HG10 := Lib.hid (show Fr (fun _ => False) w3 w10 from by rw [hq10]; exact HG9.out.drewN q10)
        clear hq10 HG9 HC9 cgot
        have hg11 : Fr (fun _ => False) w3 (w10.alloc (.cells #[.int .i64 0] 3)) := HG10.out.alloc _
        obtain ⟨bk, hbk⟩ : ∃ bk, bk = w10.heap.size := ⟨_, rfl⟩
        obtain ⟨W11, hW11⟩ : ∃ W11, W11 = w10.alloc (.cells #[.int .i64 0] 3) := ⟨_, rfl⟩
        have hk11 : W11.heap[bk]? = some (.cells #[.int .i64 0] 3 (0, 0)) := by rw [hW11, hbk]; exact heap_new _ _
        have hbk3 : w3.heap.size ≤ bk := by rw [hbk]; exact HG10.out.size
        rw [← hW11] at hg11
        have HG11 := Lib.hid hg11
        have HK11 := Lib.hid hk11
        have HBK := Lib.hid hbk
        have HW11 := Lib.hid hW11
        clear hg11 hk11 hbk hW11 HG10
        go_wp2_with fail
        rw [← HW11.out, ← HBK.out]
        refine (Src.new_c A0 c0 l0 a1 _ (Kd.C_below HC.out ((HF3.out.trans HG11.out (fun _ h => h.elim)).toBelow (fun _ h => h.elim) (Nat.le_refl _))) (by omega)).mono ?_
        rintro e w12 ⟨b3, ob3, rfl, hs12, hf12⟩
        have hbk11 : bk < W11.heap.size := Bs.blk_lt HK11.out
        have HG4 := Lib.hid (show ∀ k, (k = b3 ∨ ob3 = some k) → W11.heap.size ≤ k from fun k hk => hk.elim (fun e => by rw [e]; exact hs12.le) (fun e => (hs12.row e).1))
        have HG12 := Lib.hid (HG11.out.trans hf12 (fun _ h => h.elim))
        have hcnt : Cor.Cnt bk bf few [] (fun k => k = bk ∨ k = bf) w12 := ⟨hf12.heap HK11.out (fun h => h), HG12.out.heap HBF3.out (fun h => h), by omega, fun k => Iff.rfl⟩
        have hec := Cor.each_cnt W11.heap.size b3 ob3 l0 a1 a2 bk bf few w12 hs12 hn1 hn2 (by omega) hcnt (fun k hk hk2 => by have := HG4.out k hk; have := HG11.out.size; rcases hk2 with e | e <;> omega) _ _ HV.out
        have HEC := Lib.hid hec
        have HS11 := Lib.hid HG11.out.size
        clear hs12 hf12 hcnt hec HG11
        go_wp2_with fail
        refine HEC.out.mono ?_
        rintro e w13 ⟨m, hh, rfl, ck, cf, hf13, hres⟩
        have HFIN := Lib.hid (show Below w.heap.size w w13 from ((HF3.out.trans HG12.out (fun _ h => h.elim)).trans hf13 (fun k hk => .inr (by
          have h3 := HF3.out.size
          have h4 := HWF.out
          have h5 := HS11.out
          rcases hk with e | e | e
          · have := HG4.out k e; omega
          · omega
          · omega))).toBelow (fun _ h => h.elim) (Nat.le_refl _))
        clear hf13 HEC HG12 HG4
        rcases hres with ⟨h1, rfl, rfl⟩ | ⟨h1, rfl, rfl⟩
        · go_wp2_with fail
          go_ret
          exact ⟨by simp, HFIN.out⟩
        · go_wp2_with fail
          go_ret
          exact ⟨by simp, HFIN.out⟩
  · cases h
end Go.Proofs.Ytmldibphbilghaa.Pr
