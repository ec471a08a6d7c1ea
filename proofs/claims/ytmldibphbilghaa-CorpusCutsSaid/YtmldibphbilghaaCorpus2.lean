/- corpus.Each, of any source, with any handler. -/
import Derived.Test.YtmldibphbilghaaCorpus1
namespace Go.Proofs.Ytmldibphbilghaa.Cor
open Go.RowKit Go.Proofs.Ytmldibphbilghaa.Bs Go.Proofs.YtmldibphbilghaaW.PrintWords
set_option linter.unusedVariables false
set_option linter.unusedSimpArgs false
/-- A function value, or none, that words are handed to. -/
structure HD (V : Value) (cont : List ByteArray → ByteArray → Bool) where
  St : List ByteArray → (Nat → Prop) → World → Prop
  keep : ∀ {ws M W W' S}, St ws M W → Fr S W W' → (∀ k, M k → ¬ S k) → St ws M W'
  lt : ∀ {ws M W}, St ws M W → ∀ k, M k → k < W.heap.size
  hand : ∀ (A : Option Addr) (c : Nat) (l : List ByteArray) (ws : List ByteArray) (M : Nat → Prop) (w : World), Kd.C Kd.string w A l.length l → St ws M w → (∀ ad, A = some ad → ¬ M ad.block) → ws.length + l.length ≤ 1000000 →
    Calls Try.prog 49 #[.slice A l.length c, V] w fun e w' => e = .returned (.tuple #[.int .i64 (handL cont ws l 0).1, .bool (handL cont ws l 0).2.1]) ∧ ∃ M', St (handL cont ws l 0).2.2 M' w' ∧ Fr M w w' ∧ ∀ k, M' k → M k ∨ w.heap.size ≤ k
def HD.ofCB {nf : Nat} {caps : Array Value} {cont : List ByteArray → ByteArray → Bool} (F : CB nf caps cont) : HD (.func (.func nf) #[] caps) cont where
  St := F.St
  keep := F.keep
  lt := F.lt
  hand := fun A c l ws M w hl hs hM hb => hand_cb F A c l ws M w hl hs hM hb
theorem hand_all : ∀ (l ws : List ByteArray) (i : Nat), handL (fun _ _ => true) ws l i = (i + l.length, true, ws ++ l)
  | [], ws, i => by simp [handL]
  | x :: r, ws, i => by rw [handL, if_pos rfl, hand_all r]; simp; omega
set_option maxHeartbeats 1000000 in
set_option maxRecDepth 100000 in
theorem hand_nil (A : Option Addr) (c : Nat) (l : List ByteArray) (w : World) (hl : Kd.C Kd.string w A l.length l) (hbig : l.length ≤ 1000000) :
    Calls Try.prog 49 #[.slice A l.length c, .nilFunc] w fun e w' => e = .returned (.tuple #[.int .i64 l.length, .bool true]) ∧ w' = w := by
  have HL := Lib.hid hl
  have hne := func_nil
  clear hl
  go_enter Try.func49, Try.ntmps49
  go_wp2_with fail
  go_loopw [10] (fun v10 wr => wr = w ∧ ∃ (i : Nat), i ≤ l.length ∧ v10 = .int .i64 i) (fun v10 _ => l.length - (intOf v10).toNat)
  case atStart => exact ⟨rfl, 0, Nat.zero_le _, rfl⟩
  case round =>
    obtain ⟨rfl, i, hi, rfl⟩ := hrel
    by_cases hlt : i < l.length
    · obtain ⟨g, o, rfl, hc⟩ := Src.row_cells HL.out (by omega)
      have hc1 := hc i hlt
      clear hc
      go_wp2_with fail
      go_roundw
      case rel => exact ⟨trivial, i + 1, by omega, by go_num⟩
      case measure => simp [intOf]; omega
    · go_wp2_with fail
      go_ret2
      exact ⟨rfl, rfl⟩
def HD.none : HD .nilFunc (fun _ _ => true) where
  St := fun _ M _ => ∀ k, ¬ M k
  keep := fun h _ _ => h
  lt := fun h k hk => (h k hk).elim
  hand := fun A c l ws M w hl hs hM hb => by
    refine (hand_nil A c l w hl (by omega)).mono ?_
    rintro e w' ⟨rfl, rfl⟩
    rw [hand_all]
    refine ⟨by rw [Nat.zero_add], M, hs, Fr.refl _ _, fun k hk => .inl hk⟩
/-- Something that tells the pieces r, then the error e; where it lies: M. -/
structure SRC (T : TypeId) (p : Value) where
  fn : Nat
  is : ∀ (xT : TypeId) (w : World), (Instr.typeAssert (.iface T p) xT 59 true).run Try.prog w = .ok (.tuple #[.iface T p, .bool true]) w
  meth : ∀ (w : World), (method 207 T p "Next").run Try.prog w = .ok (fn, p) w
  enter : ∀ args W, (callFunc fn args).run Try.prog W = .ok (.enter fn args) W
  St : List ByteArray → Int → (Nat → Prop) → World → Prop
  keep : ∀ {r e M W W' S}, St r e M W → Fr S W W' → (∀ k, M k → ¬ S k) → St r e M W'
  lt : ∀ {r e M W}, St r e M W → ∀ k, M k → k < W.heap.size
  more : ∀ (s : ByteArray) (r : List ByteArray) (e : Int) (M : Nat → Prop) (W : World), St (s :: r) e M W → Calls Try.prog fn #[p] W fun x W' =>
    ∃ g cp, x = .returned (.tuple #[.slice (some ⟨g, 0, none⟩) s.size cp, .bool true, .int .i64 0]) ∧ Lib.Bytes W' g 0 s ∧ W.heap.size ≤ g ∧ g < W'.heap.size ∧ St r e M W' ∧ Fr M W W'
  last : ∀ (e : Int) (M : Nat → Prop) (W : World), St [] e M W → Calls Try.prog fn #[p] W fun x W' => x = .returned (.tuple #[.slice none 0 0, .bool false, .int .i64 e]) ∧ St [] e M W' ∧ Fr M W W'
/-- What Each does: the open word, the words that have been handed, how many. -/
def eachL (lim : Int) (cont : List ByteArray → ByteArray → Bool) (err : Int) : List UInt8 → List ByteArray → Nat → List ByteArray → Nat × Int × List ByteArray
  | op, ws, many, [] => if err = 0 then (many + (handL cont ws ((Spl.endL op).map Pr.mkB) 0).1, 0, (handL cont ws ((Spl.endL op).map Pr.mkB) 0).2.2) else (many, err, ws)
  | op, ws, many, s :: r =>
    if (handL cont ws ((Spl.feedL lim op s.data.toList []).1.map Pr.mkB) 0).2.1 = true then
      (if (Spl.feedL lim op s.data.toList []).2.1 = true then eachL lim cont err (Spl.feedL lim op s.data.toList []).2.2 (handL cont ws ((Spl.feedL lim op s.data.toList []).1.map Pr.mkB) 0).2.2 (many + (handL cont ws ((Spl.feedL lim op s.data.toList []).1.map Pr.mkB) 0).1) r
      else (many + (handL cont ws ((Spl.feedL lim op s.data.toList []).1.map Pr.mkB) 0).1, 4, (handL cont ws ((Spl.feedL lim op s.data.toList []).1.map Pr.mkB) 0).2.2))
    else (many + (handL cont ws ((Spl.feedL lim op s.data.toList []).1.map Pr.mkB) 0).1, 0, (handL cont ws ((Spl.feedL lim op s.data.toList []).1.map Pr.mkB) 0).2.2)
theorem hand_len (cont : List ByteArray → ByteArray → Bool) : ∀ (l ws : List ByteArray) (i : Nat), (handL cont ws l i).1 ≤ i + l.length ∧ (handL cont ws l i).2.2.length ≤ ws.length + l.length
  | [], ws, i => by simp [handL]
  | x :: r, ws, i => by
    rw [handL]
    split
    · have := hand_len cont r (ws ++ [x]) (i + 1)
      simp at this ⊢
      omega
    · simp
/-- A row of words that Feed or End hands back. -/
theorem words_row {w : World} {B : Nat} {v : Value} {L : List (List UInt8)} (Y : List ByteArray) (hY : Y = L.map Pr.mkB) (ho : w.ownsRow B Spl.TX 1 v L.length (Spl.strs L)) :
    ∃ A c, v = .slice A Y.length c ∧ Kd.C Kd.string w A Y.length Y ∧ ∀ ad, A = some ad → B ≤ ad.block := by
  subst hY
  have hb : ∀ A c, v = .slice A L.length c → ∀ ad, A = some ad → B ≤ ad.block := by
    intro A c hv ad had
    rcases ho.2 with ⟨e, _⟩ | ⟨g, cp, cur, e, hg, _⟩
    · rw [hv, had] at e; cases e
    · rw [hv, had] at e; cases e; exact hg
  rw [Pr.strs_encs, ← List.length_map (f := Pr.mkB)] at ho
  have hR : Kd.R Kd.string 9 w B (fun _ => True) v (L.map Pr.mkB) := Kd.R_of_own ho (fun _ _ => trivial)
  obtain ⟨A, c, rfl, _, hC⟩ := Kd.R_reads hR
  exact ⟨A, c, rfl, hC, hb A c (by rw [List.length_map])⟩
theorem feed_len2 (lim : Int) (xs op : List UInt8) : (Spl.feedL lim op xs []).1.length ≤ xs.length ∧ (Spl.feedL lim op xs []).2.2.length ≤ op.length + xs.length := by
  have := Pr.feed_len lim xs op []
  simpa using this
set_option maxHeartbeats 4000000 in
set_option maxRecDepth 100000 in
theorem each_c {T : TypeId} {p : Value} {V : Value} {cont : List ByteArray → ByteArray → Bool} (R : SRC T p) (H : HD V cont) (r : List ByteArray) (err : Int) (lim : Int) (ws : List ByteArray) (MS M0 : Nat → Prop) (w : World)
    (hs : R.St r err MS w) (hh : H.St ws M0 w) (hd : ∀ k, MS k → ¬ M0 k) (h1 : 1 ≤ lim) (h2 : lim ≤ 65536) (hbig : ws.length + 2 * (Pure.wholeL r).length ≤ 100000) :
    Calls Try.prog 41 #[.iface T p, .int .i64 lim, V] w fun e w' => e = .returned (.tuple #[.int .i64 (eachL lim cont err [] ws 0 r).1, .int .i64 (eachL lim cont err [] ws 0 r).2.1]) ∧
      ∃ M', H.St (eachL lim cont err [] ws 0 r).2.2 M' w' ∧ Fr (fun k => MS k ∨ M0 k) w w' ∧ ∀ k, M' k → M0 k ∨ w.heap.size ≤ k := by
  have HS := Lib.hid hs
  have HH := Lib.hid hh
  have his := R.is
  have hme := R.meth
  have hen := R.enter
  have hml : max lim 1 = lim := by omega
  have HML := Lib.hid hml
  have HAT := Lib.hid (Spl.At.fresh w w.heap.size (Nat.le_refl _) (max lim 1))
  clear hs hh hml
  go_enter Try.func41, Try.ntmps41
  go_wp2_with fail
  refine (Spl.new_c lim _).mono ?_
  rintro e w1 ⟨rfl, rfl⟩
  go_wp2_with fail
  rw [HML.out] at HAT ⊢
  have HFR := Lib.hid (show Fr (fun k => MS k ∨ M0 k) w (w.alloc (.cells #[.int .i64 lim, .slice none 0 0, .bool false] Spl.TS)) from (Fr.refl _ w).alloc _)
  have HS1 := Lib.hid (R.keep HS.out ((Fr.refl (fun _ => False) w).alloc (.cells #[.int .i64 lim, .slice none 0 0, .bool false] Spl.TS)) (fun _ _ h => h))
  have HH1 := Lib.hid (H.keep HH.out ((Fr.refl (fun _ => False) w).alloc (.cells #[.int .i64 lim, .slice none 0 0, .bool false] Spl.TS)) (fun _ _ h => h))
  have HSL := Lib.hid (R.lt HS.out)
  have HHL := Lib.hid (H.lt HH.out)
  clear HS HH HML
  go_loopg [11] r.length (fun kq v11 wr => ∃ (r' : List ByteArray) (op : List UInt8) (ws' : List ByteArray) (many : Nat) (ob : Option Nat) (M : Nat → Prop), kq = r'.length ∧ v11 = .int .i64 many ∧ R.St r' err MS wr ∧ Spl.At w.heap.size w.heap.size ob lim op false wr ∧ H.St ws' M wr ∧
    Fr (fun k => MS k ∨ M0 k) w wr ∧ (∀ k, M k → M0 k ∨ w.heap.size ≤ k) ∧ (∀ k, M k → k ≠ w.heap.size ∧ ob ≠ some k) ∧ eachL lim cont err op ws' many r' = eachL lim cont err [] ws 0 r ∧ ws'.length + op.length + 2 * (Pure.wholeL r').length ≤ 100000 ∧ many + (Pure.wholeL r').length ≤ 100000)
  case atStart => exact ⟨r, [], ws, 0, none, M0, rfl, rfl, HS1.out, HAT.out, HH1.out, HFR.out, fun k hk => .inl hk, fun k hk => ⟨fun e => by have := HHL.out k hk; omega, by simp⟩, rfl, by simp; omega, by omega⟩
  case round =>
    obtain ⟨r', op, ws', many, ob, M, hkq, rfl, hs, hat, hh, hfr, hm1, hm2, heq, hb1, hb2⟩ := hrel
    have HS := Lib.hid hs
    have HAT2 := Lib.hid hat
    have HH := Lib.hid hh
    have HF := Lib.hid hfr
    have HM1 := Lib.hid hm1
    have HM2 := Lib.hid hm2
    have HEQ := Lib.hid heq
    have HKQ := Lib.hid hkq
    have HB1 := Lib.hid hb1
    have HB2 := Lib.hid hb2
    clear hs hat hh hfr hm1 hm2 heq hkq hb1 hb2 HAT HFR HS1 HH1
    cases r' with
    | nil =>
      have HL := Lib.hid (R.last err MS wr HS.out)
      go_wp2_with fail
      refine HL.out.mono ?_
      rintro e w2 ⟨rfl, hs2, hf2⟩
      have HF2 := Lib.hid (HF.out.trans hf2 (fun k hk => .inl (.inl hk)))
      have hdm : ∀ k, M k → ¬ MS k := fun k hk h => (HM1.out k hk).elim (fun h0 => hd k h h0) (fun h0 => by have := HSL.out k h; omega)
      have HH2 := Lib.hid (H.keep HH.out hf2 hdm)
      have hat2 := HAT2.out.fr hf2 (fun h => by have := HSL.out _ h; omega) (fun g hg h => by have := (HAT2.out.row hg).1; have := HSL.out _ h; omega)
      have HAT3 := Lib.hid hat2
      clear hs2 hf2 hat2 HL
      by_cases he : err = 0
      · subst he
        have hfc := Spl.feed_c w.heap.size w.heap.size ob lim op none 0 [] w2 HAT3.out (fun h => absurd h (by simp)) HF2.out.size (by have := HB1.out; simp; omega)
        rw [show Spl.feedL lim op [] [] = ([], true, op) from rfl] at hfc
        have HFC := Lib.hid hfc
        clear hfc
        go_wp2_with fail
        refine HFC.out.mono ?_
        rintro e w3 ⟨v3, ob3, rfl, _, hat3, hmv3, hf3⟩
        have HF3 := Lib.hid (HF2.out.trans hf3 (fun k hk => .inr (hk.elim (fun e => by omega) (fun e => (HAT3.out.row e).1))))
        have HH3 := Lib.hid (H.keep HH2.out hf3 (fun k hk h => h.elim (fun e => (HM2.out k hk).1 e) (fun e => (HM2.out k hk).2 e)))
        have HM3 := Lib.hid (show ∀ k, M k → k ≠ w.heap.size ∧ ob3 ≠ some k from fun k hk => ⟨(HM2.out k hk).1, fun e => by
          rcases hmv3 with h | h | ⟨g, h, hg⟩
          · rw [h] at e; cases e
          · rw [h] at e; exact (HM2.out k hk).2 e
          · rw [h] at e; injection e with e; have := H.lt HH2.out k hk; omega⟩)
        have HAT4 := Lib.hid hat3
        clear hat3 hmv3 hf3 HFC HAT3 HAT2 HM2
        go_wp2_with fail
        refine (Spl.end_c _ _ _ _ _ _ _ HAT4.out HF3.out.size (by have := HB1.out; omega)).mono ?_
        rintro e w4 ⟨v4, rfl, hown4, hat4, hf4⟩
        obtain ⟨Y, hY⟩ : ∃ Y, Y = (Spl.endL op).map Pr.mkB := ⟨_, rfl⟩
        obtain ⟨A4, c4, rfl, hC4, hA4⟩ := words_row Y hY hown4
        have hYl : Y.length ≤ 1 := by rw [hY, List.length_map]; unfold Spl.endL; split <;> simp
        have HF4 := Lib.hid (HF3.out.trans hf4 (fun k hk => .inr (by rw [hk]; exact Nat.le_refl _)))
        have hh4 := H.keep HH3.out hf4 (fun k hk h => (HM3.out k hk).1 h)
        have hhd := H.hand A4 c4 Y ws' M w4 hC4 hh4 (fun ad had hk => by have := hA4 ad had; have := H.lt HH3.out _ hk; omega) (by have := HB1.out; omega)
        have hq := HEQ.out
        rw [eachL, if_pos rfl, ← hY] at hq
        have hl4 := hand_len cont Y ws' 0
        have HSZ := Lib.hid HF4.out.size
        generalize handL cont ws' Y 0 = q at hhd hq hl4
        obtain ⟨n, on, ws2⟩ := q
        have HHD := Lib.hid hhd
        have HQ := Lib.hid hq
        have HL4 := Lib.hid hl4
        have hn1 : n ≤ 1 := by have := hl4.1; omega
        have hb2 := HB2.out
        clear hown4 hat4 hf4 hC4 hA4 hh4 hhd hq hl4 hY HAT4
        go_wp2_with fail
        refine HHD.out.mono ?_
        rintro e w5 ⟨rfl, M5, hs5, hf5, hm5⟩
        have HS5 := Lib.hid hs5
        have HF5 := Lib.hid (HF4.out.trans hf5 (fun k hk => (HM1.out k hk).elim (fun h => .inl (.inr h)) (fun h => .inr h)))
        have HM5 := Lib.hid (show ∀ k, M5 k → M0 k ∨ w.heap.size ≤ k from fun k hk => (hm5 k hk).elim (fun h => HM1.out k h) (fun h => .inr (Nat.le_trans HSZ.out h)))
        clear hs5 hf5 hm5 HHD
        go_wp2_with fail
        all_goals go_ret2
        all_goals rw [← HQ.out]
        all_goals exact ⟨by simp, M5, HS5.out, HF5.out, HM5.out⟩
      · go_wp2_with fail
        go_ret2
        have hx := HEQ.out
        rw [eachL, if_neg he] at hx
        rw [← hx]
        exact ⟨rfl, M, HH2.out, HF2.out, HM1.out⟩
    | cons s r' =>
      have hwl : (Pure.wholeL (s :: r')).length = s.size + (Pure.wholeL r').length := by
        have : s.data.toList.length = s.size := by simp
        simp only [Pure.wholeL, List.flatMap_cons, List.length_append]
        omega
      have hb1 := HB1.out
      have hb2 := HB2.out
      rw [hwl] at hb1 hb2
      have HL := Lib.hid (R.more s r' err MS wr HS.out)
      clear HB1 HB2
      go_wp2_with fail
      refine HL.out.mono ?_
      rintro e w2 ⟨g, cp, rfl, hby, hg1, hg2, hs2, hf2⟩
      have HF2 := Lib.hid (HF.out.trans hf2 (fun k hk => .inl (.inl hk)))
      have hdm : ∀ k, M k → ¬ MS k := fun k hk h => (HM1.out k hk).elim (fun h0 => hd k h h0) (fun h0 => by have := HSL.out k h; omega)
      have HH2 := Lib.hid (H.keep HH.out hf2 hdm)
      have hat2 := HAT2.out.fr hf2 (fun h => by have := HSL.out _ h; omega) (fun g hg h => by have := (HAT2.out.row hg).1; have := HSL.out _ h; omega)
      have HAT3 := Lib.hid hat2
      have HS2 := Lib.hid hs2
      have hsl : s.data.toList.length = s.size := by simp
      have hpc : Spl.Piece w2 w.heap.size ob (some ⟨g, 0, none⟩) s.data.toList := by
        intro _
        refine ⟨g, 0, rfl, by have := HAT2.out.lt; omega, fun e => by have := (HAT2.out.row e).2.1; omega, fun j hj => ?_⟩
        rw [hsl] at hj
        rw [hby j hj]
        simp [List.getD, hj]
        rfl
      have hfc := Spl.feed_c w.heap.size w.heap.size ob lim op (some ⟨g, 0, none⟩) cp s.data.toList w2 HAT3.out hpc HF2.out.size (by rw [hsl]; omega)
      have hfl := feed_len2 lim s.data.toList op
      have hq := HEQ.out
      rw [eachL] at hq
      rw [hsl] at hfc hfl
      generalize Spl.feedL lim op s.data.toList [] = G at hfc hq hfl
      obtain ⟨L, ok, op2⟩ := G
      obtain ⟨Y, hY⟩ : ∃ Y, Y = L.map Pr.mkB := ⟨_, rfl⟩
      have hYl : Y.length = L.length := by rw [hY, List.length_map]
      simp only [← hY] at hq
      have hl4 := hand_len cont Y ws' 0
      have HFC := Lib.hid hfc
      have HW2 := Lib.hid hg2
      clear hs2 hf2 hat2 hpc hfc hby hg1 hg2 HL HEQ
      have HQ := Lib.hid hq
      clear hq
      go_wp2_with fail
      refine HFC.out.mono ?_
      rintro e w3 ⟨v3, ob3, rfl, hown3, hat3, hmv3, hf3⟩
      obtain ⟨A3, c3, rfl, hC3, hA3⟩ := words_row Y hY hown3
      have HF3 := Lib.hid (HF2.out.trans hf3 (fun k hk => .inr (hk.elim (fun e => by omega) (fun e => (HAT3.out.row e).1))))
      have hh3 := H.keep HH2.out hf3 (fun k hk h => h.elim (fun e => (HM2.out k hk).1 e) (fun e => (HM2.out k hk).2 e))
      have HM3 := Lib.hid (show ∀ k, M k → k ≠ w.heap.size ∧ ob3 ≠ some k from fun k hk => ⟨(HM2.out k hk).1, fun e => by
          rcases hmv3 with h | h | ⟨g, h, hg⟩
          · rw [h] at e; cases e
          · rw [h] at e; exact (HM2.out k hk).2 e
          · rw [h] at e; injection e with e; have := H.lt HH2.out k hk; omega⟩)
      have hss : R.St r' err MS w3 := R.keep HS2.out hf3 (fun k hk h => h.elim (fun e => by have := HSL.out k hk; omega) (fun e => by have := (HAT3.out.row e).1; have := HSL.out k hk; omega))
      have HS3 := Lib.hid hss
      have HAT4 := Lib.hid hat3
      have hhd := H.hand A3 c3 Y ws' M w3 hC3 hh3 (fun ad had hk => by have := hA3 ad had; have := H.lt HH2.out _ hk; omega) (by omega)
      have HML3 := Lib.hid (H.lt hh3)
      generalize handL cont ws' Y 0 = q at hhd HQ hl4
      obtain ⟨n, on, ws2⟩ := q
      have HHD := Lib.hid hhd
      have h41 : n ≤ 0 + Y.length := hl4.1
      have h42 : ws2.length ≤ ws'.length + Y.length := hl4.2
      have h43 : L.length ≤ s.size := hfl.1
      have h44 : op2.length ≤ op.length + s.size := hfl.2
      have hn1 : n ≤ L.length := by omega
      have hn2 : ws2.length ≤ ws'.length + L.length := by omega
      have HN := Lib.hid hl4
      have HY := Lib.hid hYl
      have HSZ := Lib.hid HF3.out.size
      clear h41 h42 hfl hown3 hat3 hf3 hC3 hA3 hh3 hhd hl4 hY hmv3 hss HAT2 HM2 HFC HF2 HF hYl
      cases on with
      | false =>
        go_wp2_with fail
        refine HHD.out.mono ?_
        rintro e w5 ⟨rfl, M5, hs5, hf5, hm5⟩
        have HS5 := Lib.hid hs5
        have HF5 := Lib.hid (HF3.out.trans hf5 (fun k hk => (HM1.out k hk).elim (fun h => .inl (.inr h)) (fun h => .inr h)))
        have HM5 := Lib.hid (show ∀ k, M5 k → M0 k ∨ w.heap.size ≤ k from fun k hk => (hm5 k hk).elim (fun h => HM1.out k h) (fun h => .inr (Nat.le_trans HSZ.out h)))
        have hx := HQ.out
        simp only [Bool.false_eq_true, if_false] at hx
        have HX := Lib.hid hx
        clear hs5 hf5 hm5 HHD hx HQ
        go_wp2_with fail
        go_ret2
        rw [← HX.out]
        exact ⟨by simp, M5, HS5.out, HF5.out, HM5.out⟩
      | true =>
        cases ok with
        | false =>
          go_wp2_with fail
          refine HHD.out.mono ?_
          rintro e w5 ⟨rfl, M5, hs5, hf5, hm5⟩
          have HS5 := Lib.hid hs5
          have HF5 := Lib.hid (HF3.out.trans hf5 (fun k hk => (HM1.out k hk).elim (fun h => .inl (.inr h)) (fun h => .inr h)))
          have HM5 := Lib.hid (show ∀ k, M5 k → M0 k ∨ w.heap.size ≤ k from fun k hk => (hm5 k hk).elim (fun h => HM1.out k h) (fun h => .inr (Nat.le_trans HSZ.out h)))
          have hx := HQ.out
          simp only [if_true, Bool.false_eq_true, if_false] at hx
          have HX := Lib.hid hx
          clear hs5 hf5 hm5 HHD hx HQ
          go_wp2_with fail
          go_ret2
          rw [← HX.out]
          exact ⟨by simp, M5, HS5.out, HF5.out, HM5.out⟩
        | true =>
          go_wp2_with fail
          refine HHD.out.mono ?_
          rintro e w5 ⟨rfl, M5, hs5, hf5, hm5⟩
          have HS5 := Lib.hid hs5
          have HF5 := Lib.hid (HF3.out.trans hf5 (fun k hk => (HM1.out k hk).elim (fun h => .inl (.inr h)) (fun h => .inr h)))
          have HM5 := Lib.hid (show ∀ k, M5 k → M0 k ∨ w.heap.size ≤ k from fun k hk => (hm5 k hk).elim (fun h => HM1.out k h) (fun h => .inr (Nat.le_trans HSZ.out h)))
          have HM6 := Lib.hid (show ∀ k, M5 k → k ≠ w.heap.size ∧ ob3 ≠ some k from fun k hk => (hm5 k hk).elim (fun h => HM3.out k h) (fun h => ⟨by have := HAT4.out.lt; omega, fun e => by have := (HAT4.out.row e).2.1; omega⟩))
          have HSS := Lib.hid (R.keep HS3.out hf5 (fun k hk h => (HM1.out k h).elim (fun h0 => hd k hk h0) (fun h0 => by have := HSL.out k hk; omega)))
          have HAT5 := Lib.hid (HAT4.out.fr hf5 (fun h => (HM3.out _ h).1 rfl) (fun g2 hg2 h => (HM3.out _ h).2 hg2))
          have hx := HQ.out
          simp only [if_true] at hx
          have HX := Lib.hid hx
          clear hs5 hf5 hm5 HHD hx HQ HS3 HAT4 HM3
          go_wp2_with fail
          go_roundg r'.length
          case rel => exact ⟨r', op2, ws2, many + n, ob3, M5, rfl, by go_num, HSS.out, HAT5.out, HS5.out, HF5.out, HM5.out, HM6.out, HX.out, by omega, by omega⟩
          case measure =>
            have := HKQ.out
            simp only [List.length_cons] at this
            omega
end Go.Proofs.Ytmldibphbilghaa.Cor
