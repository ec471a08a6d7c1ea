/- corpus.Read of any source, at any limit; the law CorpusCuts, walked. -/
import Derived.Test.YtmldibphbilghaaCorpus4
namespace Go.Proofs.Ytmldibphbilghaa.Cor
open Go.RowKit Go.Proofs.Ytmldibphbilghaa.Bs Go.Proofs.YtmldibphbilghaaW.PrintWords
set_option linter.unusedVariables false
set_option linter.unusedSimpArgs false
theorem feed_ok_W (lim : Int) : ∀ (xs op : List UInt8) (out : List (List UInt8)), (Spl.feedL lim op xs out).2.1 = true → (Spl.feedL lim op xs out).1 ++ Spl.endL (Spl.feedL lim op xs out).2.2 = out ++ Pure.wordsW op xs
  | [], op, out, _ => rfl
  | c :: l, op, out, h => by
    rw [Spl.feedL] at h ⊢
    rw [Pure.wordsW]
    by_cases hg : Spl.gap c = true
    · rw [if_pos hg] at h ⊢
      rw [if_pos hg]
      by_cases he : op = []
      · rw [if_pos he] at h ⊢
        rw [if_pos he]
        exact feed_ok_W lim l [] out h
      · rw [if_neg he] at h ⊢
        rw [if_neg he, feed_ok_W lim l [] (out ++ [op]) h, List.append_assoc]
        rfl
    · rw [if_neg hg] at h ⊢
      rw [if_neg hg]
      split at h
      · rename_i hl
        rw [if_pos hl]
        exact feed_ok_W lim l (op ++ [c]) out h
      · cases h
/-- What Read hands back: the error, the words. -/
def RD (lim : Int) (S : List UInt8) (err : Int) : Int × List ByteArray :=
  if lim < 1 ∨ 65536 < lim then (2, []) else
  if (Spl.feedL lim [] S []).2.1 = true then (if err = 0 then (0, (Pure.wordsW [] S).map Pr.mkB) else (err, [])) else (4, [])
theorem RD_words {lim : Int} {S : List UInt8} {err : Int} (h : (RD lim S err).1 = 0) (he : err = 0) : (RD lim S err).2 = (Pure.wordsW [] S).map Pr.mkB := by
  unfold RD at h ⊢
  split
  · rename_i h1; rw [if_pos h1] at h; cases h
  · rename_i h1
    rw [if_neg h1] at h
    split
    · first | rfl | rw [if_pos he]
    · rename_i h2; rw [if_neg h2] at h; cases h
theorem RD_none {lim : Int} {S : List UInt8} {err : Int} (h : (RD lim S err).1 ≠ 0) : (RD lim S err).2 = [] := by
  unfold RD at h ⊢
  split
  · rfl
  · rename_i h1
    rw [if_neg h1] at h
    split
    · rename_i h2
      rw [if_pos h2] at h
      split
      · rename_i h3; rw [if_pos h3] at h; exact absurd rfl h
      · rfl
    · rfl
theorem RD_len (lim : Int) (S : List UInt8) (err : Int) : (RD lim S err).2.length ≤ S.length + 1 := by
  have := Pure.wordsW_len S []
  unfold RD
  split
  · simp
  · split
    · split
      · simp; omega
      · simp
    · simp
theorem nil_reads (w : World) : Kd.C Kd.string w none 0 [] := by
  obtain ⟨A, c, he, _, hC⟩ := Kd.R_reads (Kd.R_nil Kd.string 9 w 0 (fun _ => True))
  cases he
  exact hC
theorem read_any {T : TypeId} {p : Value} (R : SRC T p) (r : List ByteArray) (err : Int) (lim : Int) (MS : Nat → Prop) (w : World) (E : Int) (Y : List ByteArray)
    (hs : R.St r err MS w) (hbig : 2 * (Pure.wholeL r).length ≤ 100000) (hq : RD lim (Pure.wholeL r) err = (E, Y)) :
    Calls Try.prog 40 #[.iface T p, .int .i64 lim] w fun e w' => Fr MS w w' ∧ ∃ A c, e = .returned (.tuple #[.slice A Y.length c, .int .i64 E]) ∧ Y.length ≤ c ∧ Kd.C Kd.string w' A Y.length Y := by
  unfold RD at hq
  by_cases hc : lim < 1 ∨ 65536 < lim
  · rw [if_pos hc] at hq
    cases hq
    refine (read_bad _ lim w hc).mono ?_
    rintro e w' ⟨rfl, hf⟩
    exact ⟨hf.mono (fun _ h => h.elim), none, 0, rfl, Nat.le_refl _, nil_reads _⟩
  · rw [if_neg hc] at hq
    have hrc := fun n E Y hq => read_c R r err lim MS w n E Y hs (by omega) (by omega) hbig hq
    have hea := each_all lim err r [] [] 0
    by_cases hok : (Spl.feedL lim [] (Pure.wholeL r) []).2.1 = true
    · rw [if_pos hok] at hq hea
      by_cases he : err = 0
      · rw [if_pos he] at hq hea
        cases hq
        refine (hrc _ _ _ hea).mono ?_
        rintro e w' ⟨hf, ⟨h0, _⟩ | ⟨_, v, rfl, ho⟩⟩
        · exact absurd rfl h0
        · rw [List.nil_append, feed_ok_W lim _ _ _ hok, List.nil_append] at ho
          obtain ⟨A, c, rfl, h1, h2⟩ := Pr.own_reads ho
          exact ⟨hf, A, c, rfl, h1, h2⟩
      · rw [if_neg he] at hq hea
        cases hq
        refine (hrc _ _ _ hea).mono ?_
        rintro e w' ⟨hf, ⟨h0, rfl⟩ | ⟨h0, _⟩⟩
        · exact ⟨hf, none, 0, rfl, Nat.le_refl _, nil_reads _⟩
        · exact absurd h0 he
    · rw [if_neg hok] at hq hea
      cases hq
      refine (hrc _ _ _ hea).mono ?_
      rintro e w' ⟨hf, ⟨h0, rfl⟩ | ⟨h0, _⟩⟩
      · exact ⟨hf, none, 0, rfl, Nat.le_refl _, nil_reads _⟩
      · cases h0
theorem told_neg : ∀ (l : List ByteArray) (i : Nat), (Src.told (-1) i l).2 = 0 ∧ Pure.wholeL (Src.told (-1) i l).1 = Pure.wholeL l
  | [], i => by rw [Src.told, if_neg (by omega)]; exact ⟨rfl, rfl⟩
  | s :: r, i => by
    obtain ⟨h1, h2⟩ := told_neg r (i + 1)
    rw [Src.told, if_neg (by omega)]
    split
    · rename_i h
      subst h
      exact ⟨h1, by rw [h2]; simp [Pure.wholeL]⟩
    · refine ⟨h1, ?_⟩
      simp only [Pure.wholeL, List.flatMap_cons] at h2 ⊢
      rw [h2]
end Go.Proofs.Ytmldibphbilghaa.Cor
namespace Go.Proofs.Ytmldibphbilghaa.Pr
open Go.RowKit Go.Proofs.Ytmldibphbilghaa.Bs Go.Proofs.YtmldibphbilghaaW.PrintWords Go.Proofs.YtmldibphbilghaaW.PrintLast Go.Proofs.YtmldibphbilghaaW.PrintMore
set_option linter.unusedVariables false
set_option linter.unusedSimpArgs false
/-- 'l = append(l, x)', l owned. -/
theorem append_one {w : World} {ops : Array Oper} {rest : List Oper} {o : Oper} {a : Act} {Q : Exit → Act → World → Prop} (hgd : o.guard = none) (s x : Operand)
    (ho : o.op = .call { callee := .builtin .append, args := #[s, x], argTypes := #[22, 22] }) (base : Nat) (v : Value) (l : List ByteArray) (t : ByteArray) (hs : a.eval s = v) (hx : a.eval x = .slice (some ⟨w.heap.size, 0, none⟩) 1 1)
    (h1 : w.ownsRow base Cor.TX 1 v l.length (l.map Value.string)) (hb : base ≤ w.heap.size) (hn : l.length ≤ 100000000)
    (h : ∀ v' w', w'.ownsRow base Cor.TX 1 v' (l ++ [t]).length ((l ++ [t]).map Value.string) → Fr (fun k => v.ownBlock = some k) w w' → wpList Try.prog ops Q rest (a.put o.dst v') w') : wpList Try.prog ops Q (o :: rest) a (w.alloc (.cells #[.string t] 9)) := by
  obtain ⟨i1, hx1, hx0, hxs, hxb⟩ := info_parts Spl.infoX
  refine wpList_append_own_at _ hgd s x 22 ho base Cor.TX i1 (.string ByteArray.empty) 1 16 Try.underlying22 hx1 hx0 hxs hxb rfl (by decide) v _ _ hs (h1.alloc _) ⟨w.heap.size, 0, none⟩ 1 1 [.string t] hx rfl ?_ ?_ ?_ ?_ ?_ ?_
  · intro j u hj
    match j, hj with
    | 0, hj => simp at hj; subst hj; simp [Addr.add]
  · intro u hu; simp at hu; subst hu; rfl
  · unfold maxLen; omega
  · omega
  · simp; omega
  · intro v' w' hown' hg _ _
    refine h v' w' (by simpa using hown') ?_
    exact ((Fr.refl _ w).alloc _).grown hg (fun k hk => .inl hk)
def gluepotlaw05_CorpusCuts.f (a0 : ByteArray) (l1 : List Int) (a2 : Int) : Option Bool := if a0.size ≤ maxLen ∧ ∀ x ∈ l1, 0 ≤ x ∧ x < 65536 then some true else none
set_option maxHeartbeats 4000000 in
set_option maxRecDepth 100000 in
theorem gluepotlaw05_CorpusCuts.calls (a0 : ByteArray) (A1 : Option Addr) (c1 : Nat) (l1 : List Int) (a2 : Int) (r : Bool) (w : World) (hr1 : Kd.C (Kd.int .u16) w A1 l1.length l1) (hc1 : l1.length ≤ c1) (h : gluepotlaw05_CorpusCuts.f a0 l1 a2 = some r) :
    Calls Try.prog 11 #[.string a0, .slice A1 l1.length c1, .int .i64 a2] w fun e w' => e = .returned (.bool r) ∧ Below w.heap.size w w' := by
  unfold gluepotlaw05_CorpusCuts.f at h
  split at h
  · rename_i hcond
    cases h
    obtain ⟨hsz, hu16⟩ := hcond
    have HC := Lib.hid hr1
    have HU := Lib.hid hu16
    clear hr1 hu16
    go_enter Try.func11, Try.ntmps11
    go_wp2_with fail
    refine (gluepotlaw05_awake.calls true _ rfl).mono ?_
    rintro e w1 ⟨rfl, hb1⟩
    have HB1 := Lib.hid hb1
    clear hb1
    by_cases hbig : 3000 < a0.size
    · go_wp2_with fail
      go_ret
      exact ⟨rfl, HB1.out⟩
    · by_cases hbig2 : 100 < l1.length
      · go_wp2_with fail
        go_ret
        exact ⟨rfl, HB1.out⟩
      · have HF1 := Lib.hid (Fr.ofBelow (S := fun _ => False) HB1.out)
        have HCw := Lib.hid (Kd.C_below HC.out HB1.out)
        have hlen : a0.data.toList.length = a0.size := by simp
        clear HC HB1
        go_wp2_with fail
        go_loopw [7, 8, 9] (fun v7 v8 v9 wr => ∃ (i pos : Nat) (P : List ByteArray), i ≤ l1.length ∧ pos ≤ a0.size ∧ P.length ≤ i ∧ v8 = .int .i64 pos ∧ v9 = .int .i64 i ∧ Pure.wholeL P = a0.data.toList.take pos ∧ wr.ownsRow w1.heap.size Cor.TX 1 v7 P.length (P.map Value.string) ∧ Fr (fun _ => False) w1 wr) (fun _ _ v9 _ => l1.length - (intOf v9).toNat)
        case atStart => exact ⟨0, 0, [], Nat.zero_le _, Nat.zero_le _, Nat.le_refl _, rfl, rfl, rfl, ⟨rfl, .inl ⟨rfl, rfl⟩⟩, Fr.refl _ _⟩
        case round =>
          obtain ⟨i, pos, P, hi, hpos, hPi, rfl, rfl, hPw, hown, hfr⟩ := hrel
          have HPW := Lib.hid hPw
          have HO := Lib.hid hown
          have HF := Lib.hid hfr
          clear hPw hown hfr
          by_cases hgo : i < l1.length ∧ pos < a0.size
          · obtain ⟨hi2, hp2⟩ := hgo
            obtain ⟨ad, rfl, hcell⟩ := Kd.at_int HCw.out (i : Int) (by omega) (by omega)
            have hrng := HU.out (rd l1 (i : Int)) (by unfold rd; rw [List.getD_eq_getElem?_getD, List.getElem?_eq_getElem (by omega)]; exact List.getElem_mem _)
            have hcell2 := HF.out.cell hcell (fun h => h)
            rw [Int.toNat_natCast] at hcell2
            generalize rd l1 (i : Int) = x at *
            have hz1 := Int.emod_nonneg x (show ((a0.size : Int) - pos + 1) ≠ 0 by omega)
            have hz2 := Int.emod_lt_of_pos x (show 0 < ((a0.size : Int) - pos + 1) by omega)
            obtain ⟨z, hz⟩ : ∃ z : Nat, wrap64 ((pos : Int) + x % ((a0.size : Int) - pos + 1)) = (z : Int) ∧ pos ≤ z ∧ z ≤ a0.size := by
              generalize x % ((a0.size : Int) - pos + 1) = y at *
              refine ⟨pos + y.toNat, ?_, by omega, by omega⟩
              unfold wrap64
              omega
            obtain ⟨hz, hzp, hzs⟩ := hz
            have hPz : Pure.wholeL (P ++ [a0.extract pos z]) = a0.data.toList.take z := by
              rw [Pure.whole_app, HPW.out, show Pure.wholeL [a0.extract pos z] = (a0.extract pos z).data.toList by simp [Pure.wholeL], Pure.extract_list]
              rw [show a0.data.toList.take z = a0.data.toList.take (pos + (z - pos)) by rw [show pos + (z - pos) = z by omega], List.take_add]
            have HPZ := Lib.hid hPz
            obtain ⟨A7, c7, rfl⟩ := Bs.own_slice HO.out
            clear hcell hz1 hz2 hPz
            go_wp2_with (at_builtin; refine append_one rfl _ _ rfl w1.heap.size (.slice A7 P.length c7) P (a0.extract pos z) rfl rfl HO.out HF.out.size (by omega) ?_)
            intro v4 w4 hown4 hfr4
            have HO4 := Lib.hid (show w4.ownsRow w1.heap.size Cor.TX 1 v4 (P ++ [a0.extract pos z]).length ((P ++ [a0.extract pos z]).map Value.string) by simpa using hown4)
            have HF4 := Lib.hid (HF.out.trans hfr4 (fun k hk => .inr (own_lt HO.out hk).1))
            clear hown4 hfr4
            go_wp2_with fail
            exact ⟨⟨i + 1, z, P ++ [a0.extract pos z], by omega, hzs, by simp; omega, rfl, by go_num, HPZ.out, HO4.out, HF4.out⟩, by simp [intOf]; omega⟩
          · have hPz : Pure.wholeL (P ++ [a0.extract pos a0.size]) = a0.data.toList := by
              rw [Pure.whole_app, HPW.out, show Pure.wholeL [a0.extract pos a0.size] = (a0.extract pos a0.size).data.toList by simp [Pure.wholeL], Pure.extract_list, ← hlen]
              rw [show (a0.data.toList.drop pos).take (a0.data.toList.length - pos) = a0.data.toList.drop pos from List.take_of_length_le (by simp), List.take_append_drop]
            have HPZ := Lib.hid hPz
            obtain ⟨A7, c7, rfl⟩ := Bs.own_slice HO.out
            clear hPz
            go_wp2_with (at_builtin; refine append_one rfl _ _ rfl w1.heap.size (.slice A7 P.length c7) P (a0.extract pos a0.size) rfl rfl HO.out HF.out.size (by omega) ?_)
            all_goals
              intro v4 w4 hown4 hfr4
              obtain ⟨P2, hP2⟩ : ∃ P2, P2 = P ++ [a0.extract pos a0.size] := ⟨_, rfl⟩
              have hl2 : P2.length = P.length + 1 := by rw [hP2]; simp
              have hown5 : w4.ownsRow w1.heap.size Cor.TX 1 v4 P2.length (P2.map Value.string) := by rw [hP2]; simpa using hown4
              have hw2 : Pure.wholeL P2 = a0.data.toList := by rw [hP2]; exact HPZ.out
              obtain ⟨A4, c4, rfl⟩ := Bs.own_slice hown5
              have hR4 : Kd.R Kd.string 9 w4 w1.heap.size (fun _ => True) (.slice A4 P2.length c4) P2 := Kd.R_of_own hown5 (fun _ _ => trivial)
              have HC4 := Lib.hid (Kd.R_reads' hR4).2.2
              have HF4 := Lib.hid (HF1.out.trans (HF.out.trans hfr4 (fun k hk => .inr (own_lt HO.out hk).1)) (fun _ h => h.elim))
              obtain ⟨ht1, ht2⟩ := Cor.told_neg P2 0
              have hPl : P2.length ≤ 101 := by omega
              obtain ⟨E, Y, hRD⟩ : ∃ E Y, Cor.RD a2 a0.data.toList 0 = (E, Y) := ⟨_, _, rfl⟩
              have hYl : Y.length ≤ 3001 := by
                have h1 : Y.length ≤ a0.data.toList.length + 1 := by have := Cor.RD_len a2 a0.data.toList 0; rw [hRD] at this; exact this
                omega
              have hYw : E = 0 → Y = (Pure.wordsW [] a0.data.toList).map mkB := fun h0 => by
                have := Cor.RD_words (lim := a2) (S := a0.data.toList) (err := 0) (by rw [hRD]; exact h0) rfl
                rw [hRD] at this
                exact this
              have hra : ∀ (b : Nat) (ob : Option Nat) (W : World), Src.Scr w4.heap.size b ob P2 0 (-1) W → Calls Try.prog 40 #[.iface Src.PC (.pointer (some ⟨b, 0, none⟩)), .int .i64 a2] W fun e w' => Fr (fun k => k = b ∨ ob = some k) W w' ∧ ∃ A c, e = .returned (.tuple #[.slice A Y.length c, .int .i64 E]) ∧ Y.length ≤ c ∧ Kd.C Kd.string w' A Y.length Y :=
                fun b ob W hs => Cor.read_any (Cor.scrS w4.heap.size b ob P2 (-1) (by omega)) (Src.told (-1) 0 P2).1 0 a2 (fun k => k = b ∨ ob = some k) W E Y ⟨0, Nat.zero_le _, Prod.ext rfl ht1, hs, fun k => Iff.rfl⟩ (by rw [ht2, hw2, hlen]; omega) (by rw [ht2, hw2]; exact hRD)
              have hrb : ∀ (b : Nat) (W : World), Src.PlainAt b a0 W → Calls Try.prog 40 #[.iface Src.PP (.pointer (some ⟨b, 0, none⟩)), .int .i64 a2] W fun e w' => Fr (fun k => k = b) W w' ∧ ∃ A c, e = .returned (.tuple #[.slice A Y.length c, .int .i64 E]) ∧ Y.length ≤ c ∧ Kd.C Kd.string w' A Y.length Y :=
                fun b W hs => Cor.read_any (Cor.plainS b) (Src.plain a0).toList 0 a2 (fun k => k = b) W E Y ⟨rfl, ⟨a0, hs, rfl⟩, fun k => Iff.rfl⟩ (by rw [Cor.plain_whole, hlen]; omega) (by rw [Cor.plain_whole]; exact hRD)
              have HRA := Lib.hid hra
              have HRB := Lib.hid hrb
              have HYW := Lib.hid hYw
              clear hP2 hl2 hown4 hown5 hw2 hR4 ht1 ht2 hra hrb hYw hRD HPW HPZ HO HF hgo hfr4 HCw HU
              go_wp2_with fail
              refine (Src.new_c _ _ P2 (-1) _ HC4.out (by omega)).mono ?_
              rintro e w5 ⟨b, ob, rfl, hs5, hf5⟩
              have HS5 := Lib.hid hs5
              have HF5 := Lib.hid (HF4.out.trans hf5 (fun _ h => h.elim))
              have HWB := Lib.hid (show ∀ k, (k = b ∨ ob = some k) → w.heap.size ≤ k from fun k hk => Nat.le_trans HF4.out.size (hk.elim (fun e => by rw [e]; exact hs5.le) (fun e => (hs5.row e).1)))
              clear hs5 hf5
              go_wp2_with fail
              refine (HRA.out b ob _ HS5.out).mono ?_
              rintro e w6 ⟨hf6, A6, c6, rfl, hc6, hC6⟩
              have HF6 := Lib.hid (HF5.out.trans hf6 (fun k hk => .inr (HWB.out k hk)))
              have HC6 := Lib.hid hC6
              clear hf6 hC6 HRA
              go_wp2_with fail
              refine (HRB.out _ _ (heap_new _ _)).mono ?_
              rintro e w7 ⟨hf7, A7, c7, rfl, hc7, hC7⟩
              have hb7 : Fr (fun _ => False) w6 w7 := ((Fr.refl _ w6).alloc _).trans hf7 (fun k hk => .inr (by rw [hk]; exact Nat.le_refl _))
              have HF7 := Lib.hid (HF6.out.trans hb7 (fun _ h => h.elim))
              have HC67 := Lib.hid (Kd.C_below HC6.out (hb7.toBelow (fun _ h => h.elim) (Nat.le_refl _)))
              have HC7 := Lib.hid hC7
              clear hf7 hC7 HRB hb7
              go_wp2_with fail
              refine (gluepotref01_Texts.calls (Y.length + 1) A6 c6 Y A7 c7 Y true _ HC67.out hc6 HC7.out hc7 (Pure.texts_same _ (by omega) (Nat.le_refl _))).mono ?_
              rintro e w8 ⟨rfl, ⟨q8, hq8⟩⟩
              have hf8 : Fr (fun _ => False) w7 w8 := by rw [hq8]; exact (Fr.refl _ w7).drewN q8
              have HF8 := Lib.hid (HF7.out.trans hf8 (fun _ h => h.elim))
              have HC8 := Lib.hid (Kd.C_below HC7.out (hf8.toBelow (fun _ h => h.elim) (Nat.le_refl _)))
              clear hq8 hf8
              by_cases h0 : E = 0
              · have hY := HYW.out h0
                have hwd := Pure.refwords_f (k := 10000) a0 (by omega) (by omega)
                rw [← hY] at hwd
                have HWD := Lib.hid hwd
                subst h0
                clear hY hwd
                go_wp2_with fail
                refine (gluepotref03_Words.calls 10000 _ _ _ HWD.out).mono ?_
                rintro e w9 ⟨v9, rfl, hR9, hb9⟩
                obtain ⟨A9, p9, rfl, hp9, hC9⟩ := Kd.R_reads hR9
                have HF9 := Lib.hid (HF8.out.below hb9)
                have HC89 := Lib.hid (Kd.C_below HC8.out hb9)
                have HC9 := Lib.hid hC9
                clear hb9 hC9 hR9
                go_wp2_with fail
                refine (gluepotref01_Texts.calls (Y.length + 1) A7 c7 Y A9 p9 Y true _ HC89.out hc7 HC9.out hp9 (Pure.texts_same _ (by omega) (Nat.le_refl _))).mono ?_
                rintro e w10 ⟨rfl, ⟨q10, hq10⟩⟩
                have HF10 := Lib.hid (show Fr (fun _ => False) w w10 from by rw [hq10]; exact HF9.out.drewN q10)
                clear hq10
                go_wp2_with fail
                go_ret
                exact ⟨rfl, HF10.out.toBelow (fun _ h => h.elim) (Nat.le_refl _)⟩
              · go_wp2_with fail
                go_ret
                exact ⟨rfl, HF8.out.toBelow (fun _ h => h.elim) (Nat.le_refl _)⟩
  · cases h
end Go.Proofs.Ytmldibphbilghaa.Pr
