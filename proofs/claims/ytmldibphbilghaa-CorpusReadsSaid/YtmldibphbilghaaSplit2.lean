/- (*split.Splitter).Feed and End. -/
import Derived.Test.YtmldibphbilghaaSplit1
namespace Go.Proofs.Ytmldibphbilghaa.Spl
open Go.RowKit Go.Proofs.Ytmldibphbilghaa.Bs Go.Proofs.YtmldibphbilghaaW.PrintWords
set_option linter.unusedVariables false
set_option linter.unusedSimpArgs false

abbrev TX : Nat := 9
theorem infoX : (Try.prog.info? 9).map (fun i => (i.zero, i.size, i.bytes)) = some (some (.string ByteArray.empty), 1, 16) := by kernel_rfl
def strs (l : List (List UInt8)) : List Value := l.map fun s => .string ⟨s.toArray⟩
theorem strs_length (l : List (List UInt8)) : (strs l).length = l.length := by simp [strs]
theorem strs_snoc (l : List (List UInt8)) (s : List UInt8) : strs (l ++ [s]) = strs l ++ [.string ⟨s.toArray⟩] := by simp [strs]

/-- What Feed does: the open word, the piece, the words that were ended. -/
def feedL (lim : Int) : List UInt8 → List UInt8 → List (List UInt8) → List (List UInt8) × Bool × List UInt8
  | op, [], out => (out, true, op)
  | op, c :: l, out =>
    if gap c = true then (if op = [] then feedL lim [] l out else feedL lim [] l (out ++ [op]))
    else if (op.length + 1 : Int) ≤ lim then feedL lim (op ++ [c]) l out else (out, false, [])

/-- Where a piece lies: in none of the splitter's blocks. -/
def Piece (w : World) (b : Nat) (ob : Option Nat) (A : Option Addr) (xs : List UInt8) : Prop :=
  0 < xs.length → ∃ g off, A = some ⟨g, off, none⟩ ∧ g ≠ b ∧ ob ≠ some g ∧ ∀ j, j < xs.length → w.cell? ⟨g, off + j, none⟩ = some (.int .u8 (xs.getD j 0).toNat)

theorem gap_x (c : UInt8) (w : World) : Calls Try.prog 25 #[.int .u8 c.toNat] w fun e w' => e = .returned (.bool (gap c)) ∧ ∃ q, w' = w.drewN q := by
  have := gap_c c.toNat w
  rwa [show ((c.toNat : Int).toNat.toUInt8) = c by simp] at this
theorem drop_getD (l : List UInt8) (k : Nat) (h : k < l.length) : l.drop k = l.getD k 0 :: l.drop (k + 1) := by
  rw [List.drop_eq_getElem_cons h]
  congr 1
  rw [List.getD_eq_getElem?_getD, List.getElem?_eq_getElem h]
  rfl
theorem At.drewN {B b : Nat} {ob : Option Nat} {lim : Int} {bs : List UInt8} {bad : Bool} {w : World} (h : At B b ob lim bs bad w) (q : Nat) : At B b ob lim bs bad (w.drewN q) := h
theorem own_drewN {B n : Nat} {e : TypeId} {v : Value} {xs : List Value} {w : World} (h : w.ownsRow B e 1 v n xs) (q : Nat) : (w.drewN q).ownsRow B e 1 v n xs := h
/-- Two rows of different types lie in different blocks. -/
theorem own_two {B B' n n' : Nat} {e e' : TypeId} {v v' : Value} {xs xs' : List Value} {w : World} (h : w.ownsRow B e 1 v n xs) (h' : w.ownsRow B' e' 1 v' n' xs') (hne : e ≠ e') {g : Nat} (hg : v.ownBlock = some g) (hg' : v'.ownBlock = some g) : False := by
  rcases h.2 with ⟨rfl, _⟩ | ⟨g1, cp1, cur1, rfl, _, hh, _⟩
  · cases hg
  · exact Bs.own_ne h' (by simpa [Value.ownBlock] using (by cases hg; exact hh : w.heap[g]? = _)) hne hg'
def Rel (w : World) (B b : Nat) (ob : Option Nat) (lim : Int) (bs xs : List UInt8) (v6 v19 : Value) (wr : World) : Prop :=
  ∃ (k : Nat) (ob' : Option Nat) (op : List UInt8) (out : List (List UInt8)), k ≤ xs.length ∧ v19 = .int .i64 k ∧ feedL lim bs xs [] = feedL lim op (xs.drop k) out ∧ At B b ob' lim op false wr ∧ Moved w ob ob' ∧
    Fr (Foot b ob) w wr ∧ wr.ownsRow w.heap.size TX 1 v6 out.length (strs out) ∧ op.length ≤ bs.length + k ∧ out.length ≤ k

theorem foot_trans {w wr : World} {b : Nat} {ob ob' : Option Nat} (hm : Moved w ob ob') : ∀ i, Foot b ob' i → Foot b ob i ∨ w.heap.size ≤ i := by
  intro i hi
  rcases hi with rfl | hi
  · exact .inl (.inl rfl)
  · rcases hm with rfl | rfl | ⟨g, rfl, hg⟩
    · cases hi
    · exact .inl (.inr hi)
    · cases hi
      exact .inr hg
theorem moved_trans {w wr : World} {ob o1 o2 : Option Nat} (h1 : Moved w ob o1) (hs : w.heap.size ≤ wr.heap.size) (h2 : Moved wr o1 o2) : Moved w ob o2 := by
  rcases h2 with rfl | rfl | ⟨g, rfl, hg⟩
  · exact .inl rfl
  · exact h1
  · exact .inr (.inr ⟨g, rfl, by omega⟩)

set_option maxHeartbeats 4000000 in
set_option maxRecDepth 100000 in
theorem feed_c (B b : Nat) (ob : Option Nat) (lim : Int) (bs : List UInt8) (A : Option Addr) (cp : Nat) (xs : List UInt8) (w : World) (h : At B b ob lim bs false w) (hP : Piece w b ob A xs) (hBw : B ≤ w.heap.size) (hbig : bs.length + xs.length ≤ 1000000000) :
    Calls Try.prog 18 #[.pointer (some ⟨b, 0, none⟩), .slice A xs.length cp] w fun e w' => ∃ v ob', e = .returned (.tuple #[v, .bool (feedL lim bs xs []).2.1]) ∧
      w'.ownsRow w.heap.size TX 1 v (feedL lim bs xs []).1.length (strs (feedL lim bs xs []).1) ∧ At B b ob' lim (feedL lim bs xs []).2.2 (!(feedL lim bs xs []).2.1) w' ∧ Moved w ob ob' ∧ Fr (Foot b ob) w w' := by
  obtain ⟨i0, hi, hz0, hz1, hz2⟩ := info_parts info8
  obtain ⟨i1, hx, hx0, hx1, hx2⟩ := info_parts infoX
  have H := h
  obtain ⟨v0, hB, hb, ho, hob⟩ := h
  have HOB := Lib.hid hob
  have c2 : w.cell? ⟨b, 2, none⟩ = some (.bool false) := by rw [cell_heap hb]; rfl
  have HH := Lib.hid H
  have HPP := Lib.hid hP
  clear H hP ho hb hob
  go_enter Try.func18, Try.ntmps18
  go_wp2
  go_loopw [6, 19] (fun v6 v19 wr => Rel w B b ob lim bs xs v6 v19 wr) (fun _ v19 _ => xs.length - (intOf v19).toNat)
  case atStart => exact ⟨0, ob, bs, [], Nat.zero_le _, rfl, by simp, HH.out, .inr (.inl rfl), Fr.refl _ _, ⟨rfl, .inl ⟨rfl, rfl⟩⟩, by simp, Nat.le_refl _⟩
  case round =>
    obtain ⟨k, ob', op, out, hk, rfl, hfeed, hat, hmv, hfr, hout, hopl, houtl⟩ := hrel
    by_cases hlt : k < xs.length
    · obtain ⟨g, off, rfl, hgb, hog, hcs⟩ := HPP.out (by omega)
      have hcx := hfr.cell (hcs k hlt) (fun hx => hx.elim hgb (fun e => hog e))
      have hstep : feedL lim bs xs [] = feedL lim op (xs.getD k 0 :: xs.drop (k + 1)) out := by rw [hfeed, drop_getD xs k hlt]
      rw [feedL] at hstep
      generalize xs.getD k 0 = x at hcx hstep
      have HS := Lib.hid hstep
      have HA := Lib.hid hat
      have HM := Lib.hid hmv
      have HR := Lib.hid hfr
      have HO := Lib.hid hout
      clear hstep hat hmv hfr hout hfeed hcs
      by_cases hg : gap x = true
      · have hs2 := HS.out
        rw [if_pos hg] at hs2
        clear HS
        have HS := Lib.hid hs2
        clear hs2
        go_wp2_with fail
        refine (gap_x x _).mono ?_
        rintro e w1 ⟨rfl, ⟨q, rfl⟩⟩
        obtain ⟨v1, hB1, hb1, ho1, hob1⟩ := HA.out.drewN q
        obtain ⟨ao, cap, rfl⟩ := Bs.own_slice ho1
        have c1 : (wr.drewN q).cell? ⟨b, 1, none⟩ = some (.slice ao op.length cap) := by rw [cell_heap hb1]; rfl
        clear hb1 ho1 hob1
        by_cases hop : op = []
        · subst hop
          have hs2 := HS.out
          rw [if_pos rfl] at hs2
          go_wp2_with fail
          go_roundw
          case rel => exact ⟨k + 1, ob', [], out, by omega, by go_num, hs2, HA.out.drewN q, HM.out, HR.out.drewN q, own_drewN HO.out q, by simp, by omega⟩
          case measure => simp [intOf]; omega
        · have hl0 : 0 < op.length := List.length_pos_iff.2 hop
          have hs2 := HS.out
          rw [if_neg hop] at hs2
          clear HS
          have HS := Lib.hid hs2
          clear hs2 hop
          go_wp2_with fail
          refine (take_c B b ob' lim op false _ (HA.out.drewN q) (by omega)).mono ?_
          rintro e w2 ⟨rfl, hat2, hfr2⟩
          have hfr3 : Fr (Foot b ob) w w2 := (HR.out.drewN q).trans hfr2 (fun i hi => .inl (.inl hi))
          have hown2 : w2.ownsRow w.heap.size TX 1 u6 out.length (strs out) := by
            refine hfr2.own (own_drewN HO.out q) (fun g hg e => ?_)
            obtain ⟨v9, _, hb9, _, _⟩ := HA.out
            exact Bs.own_ne HO.out hb9 (show TS ≠ TX by decide) (by rw [hg, e])
          have HA2 := Lib.hid hat2
          have HR3 := Lib.hid hfr3
          have HOW2 := Lib.hid hown2
          clear hat2 hfr2 hfr3 hown2 c1
          go_wp2_with (at_builtin; refine wpList_append_own_at _ rfl _ _ 22 rfl w.heap.size TX i1 (.string ByteArray.empty) 1 16 Try.underlying22 hx hx0 hx1 hx2 rfl (by decide) _ _ _ rfl (HOW2.out.alloc _) ⟨w2.heap.size, 0, none⟩ 1 1 [.string ⟨op.toArray⟩] rfl rfl ?c1 ?c2 ?c3 ?c4 ?c5 ?_)
          case c1 => exact Bs.cell_one _ _ _
          case c2 => intro u hu; simp at hu; subst hu; rfl
          case c3 => unfold maxLen; omega
          case c4 => omega
          case c5 => have := HR3.out.size; simp; omega
          intro v' w3 hown3 hgrow _ hat3
          have HG3 := Lib.hid hgrow
          have HO3 := Lib.hid hown3
          clear hgrow hown3 hat3
          go_wp2
          go_roundw
          case rel =>
            have hne : ∀ g, u6.ownBlock = some g → w.heap.size ≤ g := fun g hg => (own_lt HOW2.out hg).1
            refine ⟨k + 1, ob', [], out ++ [op], by omega, by go_num, HS.out, ?_, HM.out, (HR3.out.alloc _).grown HG3.out (fun g hg => .inr (hne g hg)), ?_, by simp, by simp; omega⟩
            · refine (HA2.out.fr ((Fr.refl (fun _ => False) w2).alloc _) (fun h => h) (fun _ _ h => h)).fr (S := fun k => u6.ownBlock = some k) ⟨HG3.out.os, HG3.out.tape, HG3.out.output, HG3.out.size, fun k hk hn => HG3.out.block k hk (fun e => hn e.symm)⟩ ?_ ?_
              · intro e
                obtain ⟨v9, _, hb9, _, _⟩ := HA2.out
                exact Bs.own_ne HOW2.out hb9 (show TS ≠ TX by decide) e
              · intro g9 hg9 e
                obtain ⟨v9, _, hb9, ho9, hob9⟩ := HA2.out
                rw [← hob9] at hg9
                exact own_two ho9 HOW2.out (by decide) hg9 e
            · rw [strs_snoc, List.length_append]
              exact HO3.out
          case measure => simp [intOf]; omega
      · have hs2 := HS.out
        rw [if_neg hg] at hs2
        clear HS
        have HS := Lib.hid hs2
        clear hs2
        have hgf : gap x = false := by simpa using hg
        clear hg
        go_wp2_with fail
        refine (gap_x x _).mono ?_
        rintro e w1 ⟨rfl, ⟨q, rfl⟩⟩
        rw [hgf]
        obtain ⟨v1, hB1, hb1, ho1, hob1⟩ := HA.out.drewN q
        obtain ⟨ao, cap, rfl⟩ := Bs.own_slice ho1
        have c1 : (wr.drewN q).cell? ⟨b, 1, none⟩ = some (.slice ao op.length cap) := by rw [cell_heap hb1]; rfl
        have hne := Bs.own_ne ho1 hb1 (show TS ≠ T8 by decide)
        have HO1 := Lib.hid ho1
        have HB1 := Lib.hid hb1
        have HOB1 := Lib.hid hob1
        clear ho1 hb1 hob1
        go_wp2_with (at_builtin; refine wpList_append_own_at _ rfl _ _ 31 rfl B T8 i0 (.int .u8 0) 1 1 Try.underlying31 hi hz0 hz1 hz2 rfl (by decide) _ _ _ rfl (HO1.out.alloc _) ⟨(wr.drewN q).heap.size, 0, none⟩ 1 1 [.int .u8 x.toNat] rfl rfl ?c1 ?c2 ?c3 ?c4 ?c5 ?_)
        case c1 => exact Bs.cell_one _ _ _
        case c2 => intro u hu; simp at hu; subst hu; rfl
        case c3 => unfold maxLen; omega
        case c4 => omega
        case c5 => have := HR.out.size; simp; omega
        intro v' w2 hown2 hgrow _ hat2
        have hb2 : w2.heap[b]? = some (.cells #[.int .i64 lim, .slice ao op.length cap, .bool false] TS (0, 0)) := by
          rw [hgrow.block b (by have := Bs.blk_lt HB1.out; simp at this ⊢; omega) (fun e => hne e.symm)]
          exact heap_old HB1.out _
        have d1 : w2.frozen? ⟨b, 1, none⟩ = false := free_heap hb2 1
        have hb3 : (w2.setCell ⟨b, 1, none⟩ v').heap[b]? = some (.cells #[.int .i64 lim, v', .bool false] TS (0, 0)) := by simpa using heap_set hb2 1 v'
        have hfr3 : Fr (Foot b ob) w (w2.setCell ⟨b, 1, none⟩ v') := by
          refine ((((HR.out.drewN q).alloc _).grown hgrow (fun k hk => ?_))).set (.inl (.inl rfl)) _
          exact foot_trans (wr := wr) HM.out k (.inr (by rw [← HOB1.out]; exact hk))
        have hmv : Moved w ob v'.ownBlock := by
          refine moved_trans HM.out HR.out.size ?_
          rcases hat2 with e | e
          · exact .inr (.inl (by rw [e, HOB1.out]))
          · exact .inr (.inr ⟨_, e, by simp⟩)
        have hne2 := Bs.own_ne hown2 hb2 (show TS ≠ T8 by decide)
        have hown3 : (w2.setCell ⟨b, 1, none⟩ v').ownsRow B T8 1 v' (op ++ [x]).length (cells (op ++ [x])) := by
          have := ((Fr.refl (fun k => k = b) w2).set (p := ⟨b, 1, none⟩) (.inl rfl) v').own hown2 (fun g hg e => hne2 (by rw [hg, e]))
          rw [cells_snoc, List.length_append]
          exact this
        have hout3 : (w2.setCell ⟨b, 1, none⟩ v').ownsRow w.heap.size TX 1 u6 out.length (strs out) := by
          have h0 := (own_drewN HO.out q).alloc (.cells #[.int .u8 x.toNat] T8)
          have h1 := Fr.own (S := fun k => (Value.slice ao op.length cap).ownBlock = some k) ⟨hgrow.os, hgrow.tape, hgrow.output, hgrow.size, fun k hk hn => hgrow.block k hk (fun e => hn e.symm)⟩ h0 (fun g hg e => own_two (HO1.out.alloc _) h0 (by decide) e hg)
          exact ((Fr.refl (fun k => k = b) w2).set (p := ⟨b, 1, none⟩) (.inl rfl) v').own h1 (fun g hg e => Bs.own_ne h1 hb2 (show TS ≠ TX by decide) (by rw [hg, e]))
        obtain ⟨g', cap', rfl⟩ : ∃ g cap, v' = .slice (some ⟨g, 0, none⟩) (op.length + 1) cap := by
          rcases hown2.2 with ⟨_, h0⟩ | ⟨g, cap, cur, hv, _⟩
          · omega
          · exact ⟨g, cap, hv⟩
        have e0 : (w2.setCell ⟨b, 1, none⟩ (.slice (some ⟨g', 0, none⟩) (op.length + 1) cap')).cell? ⟨b, 0, none⟩ = some (.int .i64 lim) := by rw [cell_heap hb3]; rfl
        have e1 : (w2.setCell ⟨b, 1, none⟩ (.slice (some ⟨g', 0, none⟩) (op.length + 1) cap')).cell? ⟨b, 1, none⟩ = some (.slice (some ⟨g', 0, none⟩) (op.length + 1) cap') := by rw [cell_heap hb3]; rfl
        have d0 : w2.cell? ⟨b, 1, none⟩ = some (.slice ao op.length cap) := by rw [cell_heap hb2]; rfl
        have d2 : w2.cell? ⟨b, 2, none⟩ = some (.bool false) := by rw [cell_heap hb2]; rfl
        have f2 : w2.frozen? ⟨b, 2, none⟩ = false := free_heap hb2 2
        have HB3 := Lib.hid hb3
        have HR3 := Lib.hid hfr3
        have HM3 := Lib.hid hmv
        have HO3 := Lib.hid hown3
        have HX3 := Lib.hid hout3
        clear hb3 hfr3 hmv hown3 hout3 hown2 hgrow hat2
        by_cases hl : (op.length + 1 : Int) ≤ lim
        · have hs2 := HS.out
          rw [if_pos hl] at hs2
          clear HS
          have HS := Lib.hid hs2
          clear hs2
          go_wp2_with fail
          go_region
          go_wp2_with fail
          go_roundw
          case rel => exact ⟨k + 1, _, op ++ [x], out, by omega, by go_num, HS.out, ⟨_, hB1, HB3.out, HO3.out, rfl⟩, HM3.out, HR3.out.drew, HX3.out, by simp; omega, by omega⟩
          case measure => simp [intOf]; omega
        · have hs2 := HS.out
          rw [if_neg hl] at hs2
          clear HS
          have HS := Lib.hid hs2
          clear hs2
          go_wp2_with fail
          go_region
          go_wp2_with fail
          go_ret2
          have hA4 := heap_set (heap_set HB3.out 2 (.bool true)) 1 (.slice none 0 0)
          have hF4 := ((HR3.out.set (p := ⟨b, 2, none⟩) (.inl (.inl rfl)) (.bool true)).set (p := ⟨b, 1, none⟩) (.inl (.inl rfl)) (.slice none 0 0)).drew
          have hX4 : ∀ g, u6.ownBlock = some g → g ≠ b := fun g hg e => Bs.own_ne HX3.out HB3.out (show TS ≠ TX by decide) (by rw [hg, e])
          have hO4 := ((Fr.refl (fun k => k = b) _).set (p := ⟨b, 1, none⟩) (.inl rfl) (.slice none 0 0)).own (((Fr.refl (fun k => k = b) _).set (p := ⟨b, 2, none⟩) (.inl rfl) (.bool true)).own HX3.out hX4) hX4
          refine ⟨u6, none, by rw [HS.out]; rfl, ?_, ?_, .inl rfl, hF4⟩
          · rw [HS.out]
            exact hO4
          · rw [HS.out]
            simp at hA4
            exact ⟨.slice none 0 0, hB1, hA4, ⟨rfl, .inl ⟨rfl, rfl⟩⟩, rfl⟩
    · have hkl : xs.drop k = [] := List.drop_of_length_le (by omega)
      rw [hkl, feedL] at hfeed
      have HS := Lib.hid hfeed
      have HA := Lib.hid hat
      have HM := Lib.hid hmv
      have HR := Lib.hid hfr
      have HO := Lib.hid hout
      clear hfeed hat hmv hfr hout hkl
      go_wp2_with fail
      go_ret2
      refine ⟨u6, ob', by rw [HS.out]; rfl, ?_, ?_, HM.out, HR.out⟩
      · rw [HS.out]
        exact HO.out
      · rw [HS.out]
        exact HA.out
/-! ### Feed of a nil one, of a bad one -/
set_option maxHeartbeats 1000000 in
set_option maxRecDepth 100000 in
theorem feed_nil (v : Value) (w : World) : Calls Try.prog 18 #[.pointer none, v] w fun e w' => e = .returned (.tuple #[.slice none 0 0, .bool false]) ∧ w' = w := by
  go_enter Try.func18, Try.ntmps18
  go_wp2
  go_ret2
  exact ⟨rfl, rfl⟩
set_option maxHeartbeats 1000000 in
set_option maxRecDepth 100000 in
theorem feed_bad (B b : Nat) (ob : Option Nat) (lim : Int) (bs : List UInt8) (v : Value) (w : World) (h : At B b ob lim bs true w) :
    Calls Try.prog 18 #[.pointer (some ⟨b, 0, none⟩), v] w fun e w' => e = .returned (.tuple #[.slice none 0 0, .bool false]) ∧ w' = w := by
  obtain ⟨v0, hB, hb, ho, hob⟩ := h
  have c2 : w.cell? ⟨b, 2, none⟩ = some (.bool true) := by rw [cell_heap hb]; rfl
  clear hb ho hob
  go_enter Try.func18, Try.ntmps18
  go_wp2
  go_ret2
  exact ⟨rfl, rfl⟩
/-! ### End -/
def endL (op : List UInt8) : List (List UInt8) := if op = [] then [] else [op]
set_option maxHeartbeats 1000000 in
set_option maxRecDepth 100000 in
theorem end_c (B b : Nat) (ob : Option Nat) (lim : Int) (bs : List UInt8) (bad : Bool) (w : World) (h : At B b ob lim bs bad w) (hBw : B ≤ w.heap.size) (hbig : bs.length ≤ 1000000000) :
    Calls Try.prog 20 #[.pointer (some ⟨b, 0, none⟩)] w fun e w' => ∃ v, e = .returned v ∧ w'.ownsRow w.heap.size TX 1 v (endL bs).length (strs (endL bs)) ∧ At B b ob lim [] bad w' ∧ Fr (fun k => k = b) w w' := by
  have HA := Lib.hid h
  clear h
  go_enter Try.func20, Try.ntmps20
  go_wp2_with fail
  refine (open_c B b ob lim bs bad _ HA.out).mono ?_
  rintro e w1 ⟨rfl, rfl⟩
  by_cases h0 : bs = []
  · subst h0
    go_wp2_with fail
    go_ret
    exact ⟨_, rfl, ⟨rfl, .inl ⟨rfl, rfl⟩⟩, HA.out, Fr.refl _ _⟩
  · have hl0 : 0 < bs.length := List.length_pos_iff.2 h0
    go_wp2_with fail
    refine (take_c B b ob lim bs bad _ HA.out (by omega)).mono ?_
    rintro e w2 ⟨rfl, hat2, hfr2⟩
    have HA2 := Lib.hid hat2
    have HR2 := Lib.hid hfr2
    clear hat2 hfr2
    go_wp2_with fail
    go_ret
    have hsz := HR2.out.size
    refine ⟨_, rfl, ?_, (HA2.out.fr ((Fr.refl (fun _ => False) w2).alloc _) (fun h => h) (fun _ _ h => h)), HR2.out.alloc _⟩
    rw [endL, if_neg h0]
    refine ⟨rfl, .inr ⟨_, _, _, rfl, hsz, heap_new _ _, by simp, by unfold maxLen; omega, rfl, rfl⟩⟩
theorem end_nil (w : World) : Calls Try.prog 20 #[.pointer none] w fun e w' => e = .returned (.slice none 0 0) ∧ w' = w := by
  go_enter Try.func20, Try.ntmps20
  go_wp2_with fail
  refine (open_nil _).mono ?_
  rintro e w1 ⟨rfl, rfl⟩
  go_wp2_with fail
  go_ret
  exact ⟨rfl, rfl⟩
end Go.Proofs.Ytmldibphbilghaa.Spl
