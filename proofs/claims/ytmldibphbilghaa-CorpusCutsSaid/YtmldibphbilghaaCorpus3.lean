/- What is handed words in the laws: the closures; the sources. -/
import Derived.Test.YtmldibphbilghaaCorpus2
namespace Go.Proofs.Ytmldibphbilghaa.Cor
open Go.RowKit Go.Proofs.Ytmldibphbilghaa.Bs Go.Proofs.YtmldibphbilghaaW.PrintWords
set_option linter.unusedVariables false
set_option linter.unusedSimpArgs false
abbrev TX : Nat := 9
abbrev TR : Nat := 22
theorem enter_of {f : FuncId} {fn : Func} {c : Code} (hf : Try.prog.funcs[f]? = some fn) (hname : (fn.name == "runtime.NumGoroutine") = false) (hb : fn.body = some c) (args : Array Value) (w : World) : (callFunc f args).run Try.prog w = .ok (.enter f args) w := by
  have h1 : fn.name ≠ "runtime.NumGoroutine" := by simpa using hname
  simp [callFunc, hf, h1, hb]
/-- A variable at block bc that holds the words ws; where it lies. -/
def App (bc : Nat) (ws : List ByteArray) (M : Nat → Prop) (w : World) : Prop :=
  ∃ v, w.heap[bc]? = some (.cells #[v] TR (0, 0)) ∧ w.ownsRow 0 TX 1 v ws.length (ws.map Value.string) ∧ ∀ k, M k ↔ (k = bc ∨ v.ownBlock = some k)
theorem App.keep {bc : Nat} {ws : List ByteArray} {M : Nat → Prop} {W W' : World} {S : Nat → Prop} (h : App bc ws M W) (hf : Fr S W W') (hS : ∀ k, M k → ¬ S k) : App bc ws M W' := by
  obtain ⟨v, hb, ho, hM⟩ := h
  exact ⟨v, hf.heap hb (hS _ ((hM _).2 (.inl rfl))), hf.own ho (fun g hg => hS _ ((hM _).2 (.inr hg))), hM⟩
theorem App.lt {bc : Nat} {ws : List ByteArray} {M : Nat → Prop} {W : World} (h : App bc ws M W) (k : Nat) (hk : M k) : k < W.heap.size := by
  obtain ⟨v, hb, ho, hM⟩ := h
  rcases (hM k).1 hk with rfl | h
  · exact Bs.blk_lt hb
  · exact (own_lt ho h).2
theorem App.fresh (w : World) : App w.heap.size [] (fun k => k = w.heap.size) (w.alloc (.cells #[.slice none 0 0] TR)) :=
  ⟨_, heap_new w _, ⟨rfl, .inl ⟨rfl, rfl⟩⟩, fun k => ⟨.inl, fun h => h.elim id (fun h => by cases h)⟩⟩
set_option maxHeartbeats 1000000 in
set_option maxRecDepth 100000 in
theorem app_read (bc : Nat) (ws : List ByteArray) (M : Nat → Prop) (w : World) (x : ByteArray) (h : App bc ws M w) (hl : ws.length ≤ 1000000) :
    Calls Try.prog 48 #[.string x, .pointer (some ⟨bc, 0, none⟩)] w fun e w' => e = .returned (.bool true) ∧ ∃ M', App bc (ws ++ [x]) M' w' ∧ Fr M w w' ∧ ∀ k, M' k → M k ∨ w.heap.size ≤ k := by
  obtain ⟨v, hb, ho, hM⟩ := h
  obtain ⟨i1, hx1, hx0, hxs, hxb⟩ := info_parts Spl.infoX
  have hne := Bs.own_ne ho hb (show TR ≠ TX by decide)
  obtain ⟨A, c, rfl⟩ := Bs.own_slice ho
  have c0 : w.cell? ⟨bc, 0, none⟩ = some (.slice A ws.length c) := by rw [cell_heap hb]; rfl
  have HO := Lib.hid (ho.alloc (.cells #[.string x] TX))
  have HB := Lib.hid hb
  have HM := Lib.hid hM
  have HNE := Lib.hid hne
  clear ho hb hM hne
  go_enter Try.func48, Try.ntmps48
  go_wp2_with (at_builtin; refine wpList_append_own_at _ rfl _ _ 22 rfl 0 TX i1 (.string ByteArray.empty) 1 16 Try.underlying22 hx1 hx0 hxs hxb rfl (by decide) _ _ _ rfl HO.out ⟨w.heap.size, 0, none⟩ 1 1 [.string x] rfl rfl ?c1 ?c2 ?c3 ?c4 ?c5 ?_)
  case c1 =>
    intro j u hj
    match j, hj with
    | 0, hj => simp at hj; subst hj; simp [Addr.add]
  case c2 => intro u hu; simp at hu; subst hu; rfl
  case c3 => unfold maxLen; omega
  case c4 => omega
  case c5 => exact Nat.zero_le _
  intro v' w2 hown' hgrow _ hat
  have hb2 : w2.heap[bc]? = some (.cells #[.slice A ws.length c] TR (0, 0)) := by
    rw [hgrow.block bc (by have := Bs.blk_lt HB.out; simp; omega) (fun e => HNE.out e.symm)]
    exact heap_old HB.out _
  have d1 : w2.cell? ⟨bc, 0, none⟩ = some (.slice A ws.length c) := by rw [cell_heap hb2]; rfl
  have f1 : w2.frozen? ⟨bc, 0, none⟩ = false := free_heap hb2 0
  have hf2 : Fr M w (w2.setCell ⟨bc, 0, none⟩ v') :=
    ((((Fr.refl _ w).alloc _).grown hgrow (fun k hk => .inl ((HM.out k).2 (.inr hk)))).set (.inl ((HM.out bc).2 (.inl rfl))) _)
  have hat2 : App bc (ws ++ [x]) (fun k => k = bc ∨ v'.ownBlock = some k) (w2.setCell ⟨bc, 0, none⟩ v') := by
    refine ⟨v', heap_set hb2 0 v', ?_, fun k => Iff.rfl⟩
    have hne2 := Bs.own_ne hown' hb2 (show TR ≠ TX by decide)
    have := ((Fr.refl (fun k => k = bc) w2).set (p := ⟨bc, 0, none⟩) (.inl rfl) v').own hown' (fun g hg e => hne2 (by rw [hg, e]))
    simpa using this
  have hmv : ∀ k, (k = bc ∨ v'.ownBlock = some k) → M k ∨ w.heap.size ≤ k := by
    intro k hk
    rcases hk with hk | hk
    · exact .inl ((HM.out k).2 (.inl hk))
    · rcases hat with h | h
      · exact .inl ((HM.out k).2 (.inr (by rw [← h]; exact hk)))
      · rw [h] at hk
        injection hk with hk
        exact .inr (by rw [← hk]; simp)
  have HF := Lib.hid hf2
  have HA := Lib.hid hat2
  have HV := Lib.hid hmv
  obtain ⟨A', c', rfl⟩ := Bs.own_slice hown'
  clear hf2 hat2 hat hmv hown' hgrow
  go_wp2
  go_ret
  exact ⟨rfl, _, HA.out, HF.out, HV.out⟩
def cb_read (bc : Nat) : CB 48 #[.pointer (some ⟨bc, 0, none⟩)] (fun _ _ => true) where
  St := App bc
  keep := App.keep
  lt := App.lt
  enter := fun args W => enter_of Try.func48 (by rfl) (by rfl) args W
  call := fun ws M W x h hl => app_read bc ws M W x h hl
set_option maxHeartbeats 1000000 in
set_option maxRecDepth 100000 in
theorem app_got (bc : Nat) (ws : List ByteArray) (M : Nat → Prop) (w : World) (x : ByteArray) (h : App bc ws M w) (hl : ws.length ≤ 1000000) :
    Calls Try.prog 42 #[.string x, .pointer (some ⟨bc, 0, none⟩)] w fun e w' => e = .returned (.bool true) ∧ ∃ M', App bc (ws ++ [x]) M' w' ∧ Fr M w w' ∧ ∀ k, M' k → M k ∨ w.heap.size ≤ k := by
  obtain ⟨v, hb, ho, hM⟩ := h
  obtain ⟨i1, hx1, hx0, hxs, hxb⟩ := info_parts Spl.infoX
  have hne := Bs.own_ne ho hb (show TR ≠ TX by decide)
  obtain ⟨A, c, rfl⟩ := Bs.own_slice ho
  have c0 : w.cell? ⟨bc, 0, none⟩ = some (.slice A ws.length c) := by rw [cell_heap hb]; rfl
  have HO := Lib.hid (ho.alloc (.cells #[.string x] TX))
  have HB := Lib.hid hb
  have HM := Lib.hid hM
  have HNE := Lib.hid hne
  clear ho hb hM hne
  go_enter Try.func42, Try.ntmps42
  go_wp2_with (at_builtin; refine wpList_append_own_at _ rfl _ _ 22 rfl 0 TX i1 (.string ByteArray.empty) 1 16 Try.underlying22 hx1 hx0 hxs hxb rfl (by decide) _ _ _ rfl HO.out ⟨w.heap.size, 0, none⟩ 1 1 [.string x] rfl rfl ?c1 ?c2 ?c3 ?c4 ?c5 ?_)
  case c1 =>
    intro j u hj
    match j, hj with
    | 0, hj => simp at hj; subst hj; simp [Addr.add]
  case c2 => intro u hu; simp at hu; subst hu; rfl
  case c3 => unfold maxLen; omega
  case c4 => omega
  case c5 => exact Nat.zero_le _
  intro v' w2 hown' hgrow _ hat
  have hb2 : w2.heap[bc]? = some (.cells #[.slice A ws.length c] TR (0, 0)) := by
    rw [hgrow.block bc (by have := Bs.blk_lt HB.out; simp; omega) (fun e => HNE.out e.symm)]
    exact heap_old HB.out _
  have d1 : w2.cell? ⟨bc, 0, none⟩ = some (.slice A ws.length c) := by rw [cell_heap hb2]; rfl
  have f1 : w2.frozen? ⟨bc, 0, none⟩ = false := free_heap hb2 0
  have hf2 : Fr M w (w2.setCell ⟨bc, 0, none⟩ v') :=
    ((((Fr.refl _ w).alloc _).grown hgrow (fun k hk => .inl ((HM.out k).2 (.inr hk)))).set (.inl ((HM.out bc).2 (.inl rfl))) _)
  have hat2 : App bc (ws ++ [x]) (fun k => k = bc ∨ v'.ownBlock = some k) (w2.setCell ⟨bc, 0, none⟩ v') := by
    refine ⟨v', heap_set hb2 0 v', ?_, fun k => Iff.rfl⟩
    have hne2 := Bs.own_ne hown' hb2 (show TR ≠ TX by decide)
    have := ((Fr.refl (fun k => k = bc) w2).set (p := ⟨bc, 0, none⟩) (.inl rfl) v').own hown' (fun g hg e => hne2 (by rw [hg, e]))
    simpa using this
  have hmv : ∀ k, (k = bc ∨ v'.ownBlock = some k) → M k ∨ w.heap.size ≤ k := by
    intro k hk
    rcases hk with hk | hk
    · exact .inl ((HM.out k).2 (.inl hk))
    · rcases hat with h | h
      · exact .inl ((HM.out k).2 (.inr (by rw [← h]; exact hk)))
      · rw [h] at hk
        injection hk with hk
        exact .inr (by rw [← hk]; simp)
  have HF := Lib.hid hf2
  have HA := Lib.hid hat2
  have HV := Lib.hid hmv
  obtain ⟨A', c', rfl⟩ := Bs.own_slice hown'
  clear hf2 hat2 hat hmv hown' hgrow
  go_wp2
  go_ret
  exact ⟨rfl, _, HA.out, HF.out, HV.out⟩
def cb_got (bc : Nat) : CB 42 #[.pointer (some ⟨bc, 0, none⟩)] (fun _ _ => true) where
  St := App bc
  keep := App.keep
  lt := App.lt
  enter := fun args W => enter_of Try.func42 (by rfl) (by rfl) args W
  call := fun ws M W x h hl => app_got bc ws M W x h hl
/-- A variable at block bk that counts, and one at bf that holds the bound. -/
def Cnt (bk bf : Nat) (few : Int) (ws : List ByteArray) (M : Nat → Prop) (w : World) : Prop :=
  w.heap[bk]? = some (.cells #[.int .i64 ws.length] 3 (0, 0)) ∧ w.heap[bf]? = some (.cells #[.int .u8 few] 5 (0, 0)) ∧ bk ≠ bf ∧ ∀ k, M k ↔ (k = bk ∨ k = bf)
set_option maxHeartbeats 1000000 in
set_option maxRecDepth 100000 in
theorem cnt_c (bk bf : Nat) (few : Int) (hf0 : 0 ≤ few) (hf1 : few < 256) (ws : List ByteArray) (M : Nat → Prop) (w : World) (x : ByteArray) (h : Cnt bk bf few ws M w) (hl : ws.length ≤ 1000000) :
    Calls Try.prog 43 #[.string x, .pointer (some ⟨bk, 0, none⟩), .pointer (some ⟨bf, 0, none⟩)] w fun e w' => e = .returned (.bool (decide ((ws.length : Int) + 1 ≤ few))) ∧ ∃ M', Cnt bk bf few (ws ++ [x]) M' w' ∧ Fr M w w' ∧ ∀ k, M' k → M k ∨ w.heap.size ≤ k := by
  obtain ⟨h1, h2, h3, hM⟩ := h
  have c1 : w.cell? ⟨bk, 0, none⟩ = some (.int .i64 ws.length) := by rw [cell_heap h1]; rfl
  have c2 : w.cell? ⟨bf, 0, none⟩ = some (.int .u8 few) := by rw [cell_heap h2]; rfl
  have f1 : w.frozen? ⟨bk, 0, none⟩ = false := free_heap h1 0
  have hh1 := heap_set h1 0 (.int .i64 ((ws.length : Int) + 1))
  have hh2 := heap_far h2 (p := ⟨bk, 0, none⟩) (fun e => h3 e.symm) (.int .i64 ((ws.length : Int) + 1))
  have c3 : (w.setCell ⟨bk, 0, none⟩ (.int .i64 ((ws.length : Int) + 1))).cell? ⟨bk, 0, none⟩ = some (.int .i64 ((ws.length : Int) + 1)) := by rw [cell_heap hh1]; rfl
  have c4 : (w.setCell ⟨bk, 0, none⟩ (.int .i64 ((ws.length : Int) + 1))).cell? ⟨bf, 0, none⟩ = some (.int .u8 few) := by rw [cell_heap hh2]; rfl
  have H1 := Lib.hid hh1
  have H2 := Lib.hid hh2
  have H3 := Lib.hid h3
  have HM := Lib.hid hM
  clear h1 h2 h3 hh1 hh2 hM
  go_enter Try.func43, Try.ntmps43
  go_wp2
  go_ret
  refine ⟨rfl, M, ⟨?_, H2.out, H3.out, HM.out⟩, (Fr.refl M w).set (.inl ((HM.out bk).2 (.inl rfl))) _, fun k hk => .inl hk⟩
  rw [List.length_append]
  exact H1.out
def cb_cnt (bk bf : Nat) (few : Int) (hf0 : 0 ≤ few) (hf1 : few < 256) : CB 43 #[.pointer (some ⟨bk, 0, none⟩), .pointer (some ⟨bf, 0, none⟩)] (fun ws _ => decide ((ws.length : Int) + 1 ≤ few)) where
  St := Cnt bk bf few
  keep := fun h hf hS => ⟨hf.heap h.1 (hS _ ((h.2.2.2 _).2 (.inl rfl))), hf.heap h.2.1 (hS _ ((h.2.2.2 _).2 (.inr rfl))), h.2.2⟩
  lt := fun h k hk => ((h.2.2.2 k).1 hk).elim (fun e => by rw [e]; exact Bs.blk_lt h.1) (fun e => by rw [e]; exact Bs.blk_lt h.2.1)
  enter := fun args W => enter_of Try.func43 (by rfl) (by rfl) args W
  call := fun ws M W x h hl => cnt_c bk bf few hf0 hf1 ws M W x h hl
/-- A Script is a source. -/
def scrS (B b : Nat) (ob : Option Nat) (l : List ByteArray) (fail : Int) (hl : l.length ≤ 1000000) : SRC Src.PC (.pointer (some ⟨b, 0, none⟩)) where
  fn := 32
  is := fun xT w => Src.isScr _ xT w
  meth := fun w => Src.mNextS _ w _ rfl
  enter := fun args W => enter_of Try.func32 (by rfl) (by rfl) args W
  St := fun r e M W => ∃ i, i ≤ l.length ∧ Src.told fail i (l.drop i) = (r, e) ∧ Src.Scr B b ob l i fail W ∧ ∀ k, M k ↔ (k = b ∨ ob = some k)
  keep := by
    rintro r e M W W' S ⟨i, hi, ht, hs, hM⟩ hf hS
    exact ⟨i, hi, ht, hs.fr hf (hS _ ((hM _).2 (.inl rfl))) (fun g hg => hS _ ((hM _).2 (.inr hg))), hM⟩
  lt := by
    rintro r e M W ⟨i, hi, ht, hs, hM⟩ k hk
    rcases (hM k).1 hk with rfl | h
    · exact hs.lt
    · exact (hs.row h).2.1
  more := by
    rintro s r e M W ⟨i, hi, ht, hs, hM⟩
    have htl := Src.tells_drop (fail := fail) hi
    have hnc := Src.next_c B b ob l i fail W hs hi hl
    generalize Src.nxt fail i (l.drop i) = q at htl hnc
    obtain ⟨o, e1, j⟩ := q
    refine hnc.mono ?_
    rintro x W' ⟨w0, hw0, hh, hs1, hf1⟩
    cases o with
    | none =>
      obtain ⟨_, _, h3, _⟩ := htl
      rw [ht] at h3
      injection h3 with h3 _
      cases h3
    | some t =>
      obtain ⟨rfl, h1, h2, h3, h4⟩ := htl
      rw [Src.drop_back (by omega), ht] at h3
      injection h3 with h3 h5
      injection h3 with h3 h6
      subst h3
      have hln : (l.drop i).length = l.length - i := List.length_drop
      obtain ⟨cp, rfl, hby, cs, hcs, _⟩ := hh.some
      have := Bs.blk_lt hcs
      exact ⟨w0.heap.size, cp, rfl, hby, by omega, this, ⟨j, by omega, Prod.ext h6.symm h5.symm, hs1, hM⟩, hf1.mono (fun k hk => (hM k).2 (.inl hk))⟩
  last := by
    rintro e M W ⟨i, hi, ht, hs, hM⟩
    have htl := Src.tells_drop (fail := fail) hi
    have hnc := Src.next_c B b ob l i fail W hs hi hl
    generalize Src.nxt fail i (l.drop i) = q at htl hnc
    obtain ⟨o, e1, j⟩ := q
    refine hnc.mono ?_
    rintro x W' ⟨w0, hw0, hh, hs1, hf1⟩
    cases o with
    | some t =>
      obtain ⟨_, _, _, h3, _⟩ := htl
      rw [ht] at h3
      injection h3 with h3 _
      cases h3
    | none =>
      obtain ⟨h1, h2, h3, h4⟩ := htl
      rw [ht] at h3
      injection h3 with _ h3
      subst h3
      rw [Src.drop_back h1] at h4
      have hln : (l.drop i).length = l.length - i := List.length_drop
      exact ⟨hh, ⟨j, by omega, h4, hs1, hM⟩, hf1.mono (fun k hk => (hM k).2 (.inl hk))⟩
/-- A Plain is a source. -/
def plainS (b : Nat) : SRC Src.PP (.pointer (some ⟨b, 0, none⟩)) where
  fn := 34
  is := fun xT w => Src.isPlain _ xT w
  meth := fun w => Src.mNextP _ w _ rfl
  enter := fun args W => enter_of Try.func34 (by rfl) (by rfl) args W
  St := fun r e M W => e = 0 ∧ (∃ s, Src.PlainAt b s W ∧ r = (Src.plain s).toList) ∧ ∀ k, M k ↔ k = b
  keep := by
    rintro r e M W W' S ⟨he, ⟨s, hs, hr⟩, hM⟩ hf hS
    exact ⟨he, ⟨s, hf.heap hs (hS _ ((hM _).2 rfl)), hr⟩, hM⟩
  lt := by
    rintro r e M W ⟨he, ⟨s, hs, hr⟩, hM⟩ k hk
    rw [(hM k).1 hk]
    exact Bs.blk_lt hs
  more := by
    rintro s r e M W ⟨he, ⟨t, hs, hr⟩, hM⟩
    refine (Src.plain_c b t W hs).mono ?_
    rintro x W' ⟨hh, hp, hf⟩
    by_cases h0 : t = ByteArray.empty
    · rw [Src.plain, if_pos h0] at hr
      cases hr
    · rw [Src.plain, if_neg h0] at hr hh
      injection hr with h1 h2
      subst h1 h2
      obtain ⟨cp, rfl, hby, cs, hcs, _⟩ := hh.some
      exact ⟨W.heap.size, cp, rfl, hby, Nat.le_refl _, Bs.blk_lt hcs, ⟨he, ⟨_, hp, by rw [Src.plain, if_pos rfl]; rfl⟩, hM⟩, hf.mono (fun k hk => (hM k).2 hk)⟩
  last := by
    rintro e M W ⟨he, ⟨t, hs, hr⟩, hM⟩
    refine (Src.plain_c b t W hs).mono ?_
    rintro x W' ⟨hh, hp, hf⟩
    by_cases h0 : t = ByteArray.empty
    · rw [Src.plain, if_pos h0] at hh
      exact ⟨by rw [he]; exact hh, ⟨he, ⟨_, hp, by rw [Src.plain, if_pos rfl]; rfl⟩, hM⟩, hf.mono (fun k hk => (hM k).2 hk)⟩
    · rw [Src.plain, if_neg h0] at hr
      cases hr
end Go.Proofs.Ytmldibphbilghaa.Cor
