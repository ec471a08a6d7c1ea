/- The law SourceTells, walked: it returns true. -/
import Derived.Test.YtmldibphbilghaaSource5
import Derived.Test.YtmldibphbilghaaSpTold
namespace Go.Proofs.Ytmldibphbilghaa.Src
open Go.RowKit Go.Proofs.Ytmldibphbilghaa.Bs Go.Proofs.YtmldibphbilghaaW.PrintWords
set_option linter.unusedVariables false
set_option linter.unusedSimpArgs false
theorem run_append_none_any {P : Program} {w : World} (base : Nat) (t ty e : TypeId) (i : TypeInfo) (size : Nat) (ht : P.underlying t = some (.slice e)) (hi : P.info? e = some i)
    (v : Value) (n c : Nat) (xs : List Value) (hown : w.ownsRow base e size v n xs) :
    (Builtin.append_ #[t, t] ty #[v, .slice none 0 c]).run P w = .ok v w := by
  rcases hown.2 with ⟨rfl, rfl⟩ | ⟨g, cap, cur, rfl, _, _, hnc, _⟩
  · simp [Builtin.append_, run_underlying ht, sizeOf, typeInfo, hi, Builtin.lenOf, Builtin.firstCells]
  · simp [Builtin.append_, run_underlying ht, sizeOf, typeInfo, hi, Builtin.lenOf, Builtin.firstCells, hnc, storeCells]
/-- 'append(own, l...)', l a slice that is read. -/
theorem append_read {w : World} {ops : Array Oper} {rest : List Oper} {o : Oper} {a : Act} {Q : Exit → Act → World → Prop} (hgd : o.guard = none) (s x : Operand)
    (ho : o.op = .call { callee := .builtin .append, args := #[s, x], argTypes := #[22, 22] }) (base : Nat) (v : Value) (l1 l2 : List ByteArray) (A : Option Addr) (c : Nat) (hs : a.eval s = v) (hx : a.eval x = .slice A l2.length c)
    (h1 : w.ownsRow base TX 1 v l1.length (l1.map Value.string)) (h2 : Kd.C Kd.string w A l2.length l2) (hb : base ≤ w.heap.size) (hn : l1.length + l2.length ≤ 1000000000)
    (h : ∀ v' w', w'.ownsRow base TX 1 v' (l1 ++ l2).length ((l1 ++ l2).map Value.string) → Fr (fun k => v.ownBlock = some k) w w' → (v'.ownBlock = v.ownBlock ∨ v'.ownBlock = some w.heap.size) → wpList Try.prog ops Q rest (a.put o.dst v') w') : wpList Try.prog ops Q (o :: rest) a w := by
  obtain ⟨i1, hx1, hx0, hxs, hxb⟩ := info_parts Spl.infoX
  cases A with
  | none =>
    have : l2 = [] := by
      cases l2 with
      | nil => rfl
      | cons s r =>
        obtain ⟨g, o, he, _⟩ := row_cells h2 (by simp)
        cases he
    subst this
    refine wpList_plain hgd fun K hK => ?_
    have hrun := run_append_none_any (P := Try.prog) (w := w) base 22 o.type TX i1 1 Try.underlying22 hx1 v l1.length c (l1.map Value.string) h1
    unfold Oper.wp
    simp [execOp, ho, resolve, invoke, builtin, hs, hx, hrun, Result.andThen]
    exact hK _ _ (h v w (by simpa using h1) (Fr.refl _ _) (.inl rfl))
  | some ad =>
    have hc : ∀ j u, (l2.map Value.string)[j]? = some u → w.cell? (ad.add j) = some u := by
      intro j u hj
      have hlt : j < l2.length := by
        have := (List.getElem?_eq_some_iff.1 hj).1
        simpa using this
      obtain ⟨ad', he, hcc⟩ := Kd.at_string h2 (j : Int) (by omega) (by omega)
      cases he
      rw [Int.toNat_natCast, Pure.rd_get l2 j hlt] at hcc
      rw [hcc]
      simp [hlt] at hj
      rw [hj]
    refine wpList_append_own_at w hgd s x 22 ho base TX i1 (.string ByteArray.empty) 1 16 Try.underlying22 hx1 hx0 hxs hxb rfl (by decide) v _ _ hs h1 ad l2.length c (l2.map Value.string) hx (by simp) hc ?_ (by unfold maxLen; omega) (by omega) hb ?_
    · intro u hu
      obtain ⟨q, _, rfl⟩ := List.mem_map.1 hu
      rfl
    · intro v' w' ho' hg' _ hat
      refine h v' w' (by rw [List.length_append, List.map_append]; exact ho') ?_ hat
      exact ⟨hg'.os, hg'.tape, hg'.output, hg'.size, fun k hk hn => hg'.block k hk (fun e => hn e.symm)⟩
end Go.Proofs.Ytmldibphbilghaa.Src
namespace Go.Proofs.Ytmldibphbilghaa.Pr
open Go.RowKit Go.Proofs.Ytmldibphbilghaa.Bs Go.Proofs.YtmldibphbilghaaW.PrintWords Go.Proofs.YtmldibphbilghaaW.PrintLast Go.Proofs.YtmldibphbilghaaW.PrintMore
set_option linter.unusedVariables false
set_option linter.unusedSimpArgs false
def gluepotlaw04_SourceTells.f (l0 : List ByteArray) (a1 : Int) : Option Bool := if l0.length ≤ 9223372036854775807 then some true else none
set_option maxHeartbeats 4000000 in
set_option maxRecDepth 100000 in
theorem gluepotlaw04_SourceTells.calls (A0 : Option Addr) (c0 : Nat) (l0 : List ByteArray) (a1 : Int) (r : Bool) (w : World) (hr0 : Kd.C Kd.string w A0 l0.length l0) (hc0 : l0.length ≤ c0) (h : gluepotlaw04_SourceTells.f l0 a1 = some r) :
    Calls Try.prog 7 #[.slice A0 l0.length c0, .int .i64 a1] w fun e w' => e = .returned (.bool r) ∧ Below w.heap.size w w' := by
  unfold gluepotlaw04_SourceTells.f at h
  split at h
  · rename_i hcond
    cases h
    have HC := Lib.hid hr0
    clear hr0
    obtain ⟨kg, bg, hgr, hgf⟩ := Pure.great4_f l0 hcond
    have HG := Lib.hid hgr
    clear hgr
    go_enter Try.func7, Try.ntmps7
    go_wp2_with fail
    refine (gluepotlaw04_awake.calls true _ rfl).mono ?_
    rintro e w1 ⟨rfl, hb1⟩
    have HB1 := Lib.hid hb1
    clear hb1
    go_wp2_with fail
    refine (gluepotlaw04_great.calls kg A0 c0 l0 bg _ (Kd.C_below HC.out HB1.out) hc0 HG.out).mono ?_
    rintro e w2 ⟨rfl, ⟨q2, hq2⟩⟩
    have HF2 := Lib.hid (show Fr (fun _ => False) w w2 from by rw [hq2]; exact (Fr.ofBelow HB1.out).drewN q2)
    clear hq2 HG HB1
    cases bg with
    | true =>
      go_wp2_with fail
      go_ret
      exact ⟨rfl, HF2.out.toBelow (fun _ h => h.elim) (Nat.le_refl _)⟩
    | false =>
      obtain ⟨hn1, hn2⟩ := hgf rfl
      clear hgf
      have HW0 := Lib.hid (show w.heap.size ≤ w2.heap.size from HF2.out.size)
      have h0own : (w2.alloc (.cells #[] 9)).ownsRow w2.heap.size Src.TX 1 (.slice (some ⟨w2.heap.size, 0, none⟩) 0 0) ([] : List ByteArray).length (([] : List ByteArray).map Value.string) :=
        ⟨rfl, .inr ⟨_, 0, #[], rfl, Nat.le_refl _, heap_new _ _, Nat.le_refl _, by unfold maxLen; omega, rfl, rfl⟩⟩
      have HOWN0 := Lib.hid h0own
      have HF3 := Lib.hid (HF2.out.alloc (.cells #[] 9))
      have hC3 := Kd.C_below HC.out (HF3.out.toBelow (fun _ h => h.elim) (Nat.le_refl _))
      have HC3 := Lib.hid hC3
      clear h0own hC3
      go_wp2_with (at_builtin; refine Src.append_read rfl _ _ rfl w2.heap.size _ [] l0 A0 c0 rfl rfl HOWN0.out HC3.out (by simp) (by simp; omega) ?_)
      intro v4 w4 hown4 hfr4 hblk4
      obtain ⟨A4, c4, rfl⟩ := Bs.own_slice hown4
      have HF4 := Lib.hid (HF3.out.trans hfr4 (fun k hk => .inr (by
        have e : k = w2.heap.size := by injection hk with hk; exact hk.symm
        rw [e]
        exact HW0.out)))
      have HO4 := Lib.hid hown4
      have hR4 : Kd.R Kd.string 9 w4 w2.heap.size (fun _ => True) (.slice A4 l0.length c4) l0 := Kd.R_of_own hown4 (fun _ _ => trivial)
      have HC4 := Lib.hid (Kd.R_reads' hR4).2.2
      clear hown4 hfr4 hblk4 hR4 HOWN0 HC3 HF3 HF2
      go_wp2_with fail
      refine (Src.new_c _ _ l0 a1 _ HC4.out (by omega)).mono ?_
      rintro e w5 ⟨b, ob, rfl, hs5, hf5⟩
      have HS5 := Lib.hid hs5
      have HF5 := Lib.hid (HF4.out.trans hf5 (fun _ h => h.elim))
      have HO5 := Lib.hid (hf5.own HO4.out (fun _ _ h => h))
      have HN5 := Lib.hid hf5.size
      have HWB := Lib.hid (show w.heap.size ≤ b from Nat.le_trans HF4.out.size hs5.le)
      have hC5 := Kd.C_below HC.out (HF5.out.toBelow (fun _ h => h.elim) (Nat.le_refl _))
      have HC5 := Lib.hid hC5
      clear hs5 hf5 hC5 HF4 HC4
      go_wp2_with fail
      refine (Src.new_c _ _ l0 a1 _ HC5.out (by omega)).mono ?_
      rintro e w6 ⟨b2, ob2, rfl, hs6, hf6⟩
      have HT6 := Lib.hid hs6
      have HF6 := Lib.hid (HF5.out.trans hf6 (fun _ h => h.elim))
      have HS6 := Lib.hid (HS5.out.fr hf6 (fun h => h) (fun _ _ h => h))
      have HO6 := Lib.hid (hf6.own HO5.out (fun _ _ h => h))
      clear hs6 hf6 HC5 HF5
      -- where the blocks lie
      have HB4 := Lib.hid (show ∀ g, (Value.slice A4 l0.length c4).ownBlock = some g → w2.heap.size ≤ g ∧ g < w4.heap.size from fun g hg => own_lt HO4.out hg)
      have HB5 := Lib.hid (show (w4.heap.size ≤ b ∧ b < w5.heap.size) ∧ ∀ g, ob = some g → w4.heap.size ≤ g ∧ g < w5.heap.size from ⟨⟨HS5.out.le, HS5.out.lt⟩, fun g hg => ⟨(HS5.out.row hg).1, (HS5.out.row hg).2.1⟩⟩)
      have HB6 := Lib.hid (show (w5.heap.size ≤ b2 ∧ b2 < w6.heap.size) ∧ ∀ g, ob2 = some g → w5.heap.size ≤ g ∧ g < w6.heap.size from ⟨⟨HT6.out.le, HT6.out.lt⟩, fun g hg => ⟨(HT6.out.row hg).1, (HT6.out.row hg).2.1⟩⟩)
      clear HS5 HO5 HO4
      go_wp2_with fail
      go_loopw [8] (fun v8 wr => ∃ i : Nat, i ≤ l0.length ∧ v8 = .int .i64 i ∧ (∃ q : List ByteArray, q.length = l0.length ∧ wr.ownsRow w2.heap.size Src.TX 1 (.slice A4 l0.length c4) l0.length (q.map Value.string)) ∧ Fr (fun k => (Value.slice A4 l0.length c4).ownBlock = some k) w6 wr) (fun v8 _ => l0.length - (intOf v8).toNat)
      case atStart => exact ⟨0, Nat.zero_le _, rfl, ⟨l0, rfl, HO6.out⟩, Fr.refl _ _⟩
      case round =>
        obtain ⟨i, hi, rfl, ⟨q, hql, hoq⟩, hfq⟩ := hrel
        have HFQ := Lib.hid hfq
        have HOQ := Lib.hid hoq
        have HQL := Lib.hid hql
        clear hfq hoq hql
        by_cases hlt : i < l0.length
        · obtain ⟨gh, rfl⟩ : ∃ gh, A4 = some ⟨gh, 0, none⟩ := by
            rcases HOQ.out.2 with ⟨he, h0⟩ | ⟨g, cp, cur, he, _⟩
            · rw [h0] at hlt; cases hlt
            · cases he; exact ⟨g, rfl⟩
          obtain ⟨hx, hfz, hput⟩ : (∃ u, wr.cell? ⟨gh, i, none⟩ = some u) ∧ wr.frozen? ⟨gh, i, none⟩ = false ∧ ∃ q' : List ByteArray, q'.length = l0.length ∧ (wr.setCell ⟨gh, i, none⟩ (.string (mkB [122, 122]))).ownsRow w2.heap.size Src.TX 1 (.slice (some ⟨gh, 0, none⟩) l0.length c4) l0.length (q'.map Value.string) := by
            have hR : Kd.R Kd.string 9 wr w2.heap.size (fun _ => True) (.slice (some ⟨gh, 0, none⟩) q.length c4) q := Kd.R_of_own (by rw [HQL.out]; exact HOQ.out) (fun _ _ => trivial)
            have h1 := Kd.R_cell ByteArray.empty hR (i : Int) (by omega) (by rw [HQL.out]; omega)
            have h2 := (Kd.R_put hR (i : Int) (mkB [122, 122])).1
            rw [Int.toNat_natCast] at h1 h2
            refine ⟨⟨_, h1.1⟩, h1.2, q.set i (mkB [122, 122]), by rw [List.length_set]; exact HQL.out, ?_⟩
            have h3 := Kd.own_of_R h2
            rw [List.length_set, HQL.out] at h3
            exact h3
          obtain ⟨u, hu⟩ := hx
          obtain ⟨q', hq1, hq2⟩ := hput
          have HQ1 := Lib.hid hq1
          have HQ2 := Lib.hid hq2
          have HFQ2 := Lib.hid (HFQ.out.set (p := ⟨gh, i, none⟩) (.inl rfl) (.string (mkB [122, 122])))
          clear hq1 hq2 HOQ HQL HFQ
          go_wp2_with fail
          exact ⟨⟨i + 1, by omega, by go_num, ⟨q', HQ1.out, HQ2.out⟩, HFQ2.out⟩, by simp [intOf]; omega⟩
        · have HFW := Lib.hid (HF6.out.trans HFQ.out (fun k hk => .inr (by have := (HB4.out k hk).1; have := HW0.out; omega)))
          have HS7 := Lib.hid (HS6.out.fr HFQ.out (fun hk => by have := (HB4.out _ hk).2; have := HB5.out.1.1; omega) (fun g hg hk => by have := (HB4.out _ hk).2; have := (HB5.out.2 g hg).1; omega))
          have HT7 := Lib.hid (HT6.out.fr HFQ.out (fun hk => by have := (HB4.out _ hk).2; have := HN5.out; have := HB6.out.1.1; omega) (fun g hg hk => by have := (HB4.out _ hk).2; have := HN5.out; have := (HB6.out.2 g hg).1; omega))
          have HN7 := Lib.hid HFQ.out.size
          have hC7 := Kd.C_below HC.out (HFW.out.toBelow (fun _ h => h.elim) (Nat.le_refl _))
          have HC7 := Lib.hid hC7
          have hto := Pure.reftold_f (k := 200) l0 a1 (by omega) (by omega)
          have hsz := Pure.size_told a1 l0 0
          have htl := Pure.told_len a1 l0 0
          have hte := Pure.told_err a1 l0 0
          obtain ⟨tw, te, hT⟩ : ∃ tw te, Src.told a1 0 l0 = (tw, te) := ⟨_, _, rfl⟩
          rw [hT] at hto hsz htl hte
          have HT := Lib.hid hT
          have HTO := Lib.hid hto
          have HSZ := Lib.hid hsz
          clear hT hto hsz HS6 HT6 HFQ HOQ HQL HO6 hC7 HF6
          obtain ⟨htl1, htl2⟩ := htl
          go_wp2_with fail
          refine (gluepotref04_Told.calls 200 A0 c0 l0 a1 tw te _ HC7.out hc0 HTO.out).mono ?_
          rintro e w8 ⟨v8, rfl, hR8, hb8⟩
          obtain ⟨A8, c8, rfl, hc8, hC8⟩ := Kd.R_reads hR8
          have hwh := Pure.refwhole_f (k := 200) tw (by omega) (by omega) (by omega)
          have HWH := Lib.hid hwh
          have HC8 := Lib.hid hC8
          have HO8 := Lib.hid (Kd.own_of_R hR8)
          have HFW8 := Lib.hid (HFW.out.below hb8)
          have HS8 := Lib.hid (HS7.out.fr (Fr.ofBelow (S := fun _ => False) hb8) (fun h => h) (fun _ _ h => h))
          have HT8 := Lib.hid (HT7.out.fr (Fr.ofBelow (S := fun _ => False) hb8) (fun h => h) (fun _ _ h => h))
          have HN8 := Lib.hid hb8.size
          clear hR8 hwh hC8 hb8 HFW HS7 HT7 HC7 HTO
          go_wp2_with fail
          refine (gluepotref03_Whole.calls 200 A8 c8 tw _ _ HC8.out hc8 HWH.out).mono ?_
          rintro e w9 ⟨rfl, ⟨q9, hq9⟩⟩
          have hf9 : Fr (fun _ => False) w8 w9 := by rw [hq9]; exact (Fr.refl _ w8).drewN q9
          have HO9 := Lib.hid (hf9.own HO8.out (fun _ _ h => h))
          have HFW9 := Lib.hid (HFW8.out.trans hf9 (fun _ h => h.elim))
          have HS9 := Lib.hid (HS8.out.fr hf9 (fun h => h) (fun _ _ h => h))
          have HT9 := Lib.hid (HT8.out.fr hf9 (fun h => h) (fun _ _ h => h))
          have HN9 := Lib.hid (Nat.le_trans HN8.out hf9.size)
          have HB9 := Lib.hid (show ∀ g, (Value.slice A8 tw.length c8).ownBlock = some g → wr.heap.size ≤ g from fun g hg => (own_lt HO8.out hg).1)
          clear hq9 hf9 HO8 HFW8 HS8 HT8 HN8 HC8 HWH
          obtain ⟨ALL, hALL⟩ : ∃ ALL, ALL = mkB (Pure.wholeL tw) := ⟨_, rfl⟩
          have hALLs : ALL.size = (Pure.wholeL tw).length := by rw [hALL, Pure.mkB_size']
          rw [← hALL]
          have HALL := Lib.hid hALL
          have HALLS := Lib.hid hALLs
          clear hALL hALLs
          have hwn := HN7.out
          obtain ⟨n7, hn7⟩ : ∃ n7, n7 = wr.heap.size := ⟨_, rfl⟩
          rw [← hn7] at HO9 HN9 HB9 hwn
          have HWN := Lib.hid hwn
          clear hwn hn7 HN7
          go_wp2_with fail
          go_loopw [12] (fun v12 wq => ∃ i j : Nat, i ≤ tw.length ∧ j ≤ l0.length ∧ v12 = .int .i64 i ∧ Src.told a1 j (l0.drop j) = (tw.drop i, te) ∧ Src.Scr w4.heap.size b ob l0 j a1 wq ∧ Src.Scr w5.heap.size b2 ob2 l0 0 a1 wq ∧ wq.ownsRow n7 Src.TX 1 (.slice A8 tw.length c8) tw.length (encs Value.string tw) ∧ Fr (fun _ => False) w wq ∧ n7 ≤ wq.heap.size) (fun v12 _ => tw.length - (intOf v12).toNat)
          case atStart => exact ⟨0, 0, Nat.zero_le _, Nat.zero_le _, rfl, HT.out, HS9.out, HT9.out, HO9.out, HFW9.out, HN9.out⟩
          case round =>
            obtain ⟨i, j, hi, hj, rfl, htij, hsq, htq, hoq, hfq, hnq⟩ := hrel
            have HTIJ := Lib.hid htij
            have HSQ := Lib.hid hsq
            have HTQ := Lib.hid htq
            have HOQ := Lib.hid hoq
            have HFQ := Lib.hid hfq
            have HNQ := Lib.hid hnq
            clear htij hsq htq hoq hfq hnq HS9 HT9 HO9 HFW9 HN9
            by_cases hlt : i < tw.length
            · have hd : tw.drop i = tw[i] :: tw.drop (i + 1) := List.drop_eq_getElem_cons hlt
              obtain ⟨gw, rfl⟩ : ∃ gw, A8 = some ⟨gw, 0, none⟩ := by
                rcases HOQ.out.2 with ⟨he, h0⟩ | ⟨g, cp, cur, he, _⟩
                · rw [h0] at hlt; cases hlt
                · cases he; exact ⟨g, rfl⟩
              have kw : wr.cell? ⟨gw, i, none⟩ = some (.string tw[i]) := by
                have := HOQ.out.cells (g := gw) rfl i _ (by simp [encs, hlt] : (encs Value.string tw)[i]? = some (.string tw[i]))
                rw [show (⟨gw, i, none⟩ : Addr) = Addr.add ⟨gw, 0, none⟩ i from (by simp [Addr.add])]
                exact this
              have hsz := Src.sz_scr w4.heap.size b ob l0 j a1 wr HSQ.out (by omega) (by rw [HSZ.out]; omega)
              rw [HSZ.out, ← HALLS.out] at hsz
              have HSI := Lib.hid hsz
              clear hsz
              have hps := Pure.size_at tw i hlt
              generalize hpc : tw[i] = pc at *
              go_wp2_with fail
              refine HSI.out.mono ?_
              rintro e w10 ⟨rfl, hf10⟩
              have HS10 := Lib.hid (HSQ.out.fr hf10 (fun h => h) (fun _ _ h => h))
              have HF10 := Lib.hid hf10
              have hnc := Src.next_c w4.heap.size b ob l0 j a1 w10 HS10.out hj (by omega)
              have htd := Src.tells_drop (fail := a1) hj
              generalize Src.nxt a1 j (l0.drop j) = qq at hnc htd
              obtain ⟨o, e1, j1⟩ := qq
              have HNC := Lib.hid hnc
              have HTD := Lib.hid htd
              clear hf10 hnc htd HSI
              go_wp2_with fail
              refine HNC.out.mono ?_
              rintro e w11 ⟨w0, hw0, hh, hs11, hf11⟩
              have hbn : b < n7 := by have := HB5.out.1.2; have := HB6.out.1.1; have := HB6.out.1.2; have := HWN.out; omega
              have hsz10 : n7 ≤ w10.heap.size := Nat.le_trans HNQ.out HF10.out.size
              cases o with
              | none =>
                obtain ⟨_, _, h3, _⟩ := HTD.out
                rw [HTIJ.out, hd] at h3
                injection h3 with h3 _
                cases h3
              | some s =>
                obtain ⟨rfl, h1, h2, h3, h4⟩ := HTD.out
                rw [Src.drop_back (by omega), HTIJ.out, hd] at h3
                injection h3 with h3 h5
                injection h3 with h3 h6
                subst h3
                have hln : (l0.drop j).length = l0.length - j := List.length_drop
                have hj1 : j1 ≤ l0.length := by omega
                have htd1 : Src.told a1 j1 (l0.drop j1) = (tw.drop (i + 1), te) := Prod.ext h6.symm h5.symm
                obtain ⟨cp, rfl, hby, cs, hcs, hcl⟩ := hh.some
                obtain ⟨g, hg⟩ : ∃ g, g = w0.heap.size := ⟨_, rfl⟩
                rw [← hg] at hby hcs ⊢
                have hgn : w10.heap.size ≤ g := by omega
                have hg11 : g < w11.heap.size := Bs.blk_lt hcs
                have HTD1 := Lib.hid htd1
                have HS11 := Lib.hid hs11
                have HT11 := Lib.hid ((HTQ.out.fr HF10.out (fun h => h) (fun _ _ h => h)).fr hf11 (fun e => by have := HB5.out.1.2; have := HB6.out.1.1; omega) (fun g hg e => by have := HB5.out.1.2; have := (HB6.out.2 g hg).1; omega))
                have HO11 := Lib.hid (hf11.own (HF10.out.own HOQ.out (fun _ _ h => h)) (fun g hg e => by have := HB9.out g hg; omega))
                have HF11 := Lib.hid ((HFQ.out.trans HF10.out (fun _ h => h.elim)).trans hf11 (fun k hk => .inr (by rw [hk]; exact HWB.out)))
                have kw11 : w11.cell? ⟨gw, i, none⟩ = some (.string pc) := by
                  have := HO11.out.cells (g := gw) rfl i _ (by simp [encs, hlt, hpc] : (encs Value.string tw)[i]? = some (.string pc))
                  rw [show (⟨gw, i, none⟩ : Addr) = Addr.add ⟨gw, 0, none⟩ i from (by simp [Addr.add])]
                  exact this
                have hcv := Lib.run_convert_whole (P := Try.prog) w11.drew 31 5 9 Try.underlying31 Try.underlying5 Try.underlying9 g 0 pc hby cp
                have HCS := Lib.hid (show ∃ cs : Array Value, w11.heap[g]? = some (.cells cs Spl.T8 (cs.size, cs.size + 1)) ∧ pc.size ≤ cs.size from ⟨cs, hcs, hcl⟩)
                have HGN := Lib.hid hgn
                have HG11 := Lib.hid hg11
                clear h1 h2 h5 h6 hh hby hcs hcl hg hw0 hs11 hf11 htd1 hln HNC HTD HTIJ HSQ HTQ HOQ HFQ kw hd hgn hg11 HS10
                go_wp2_with fail
                go_region
                go_wp2_with fail
                go_loopw [18] (fun v18 wq => ∃ k : Nat, k ≤ pc.size ∧ v18 = .int .i64 k ∧ (∃ cs : Array Value, wq.heap[g]? = some (.cells cs Spl.T8 (cs.size, cs.size + 1)) ∧ pc.size ≤ cs.size) ∧ Fr (fun k => k = g) w11 wq) (fun v18 _ => pc.size - (intOf v18).toNat)
                case atStart => exact ⟨0, Nat.zero_le _, rfl, HCS.out, (Fr.refl _ _).drew⟩
                case round =>
                  obtain ⟨k, hk, rfl, ⟨cs, hcs, hcl⟩, hfq⟩ := hrel
                  have HFK := Lib.hid hfq
                  clear hfq
                  by_cases hkz : k < pc.size
                  · have q1 : ∃ u, wr.cell? ⟨g, k, none⟩ = some u := by
                      rw [cell_heap hcs]
                      exact ⟨_, Array.getElem?_eq_getElem (by omega)⟩
                    obtain ⟨u, q1⟩ := q1
                    have q2 := Spl.mark_free hcs (j := k) (by omega)
                    have q3 := heap_set hcs k (.int .u8 122)
                    have Q3 := Lib.hid q3
                    clear q3 hcs
                    go_wp2_with fail
                    exact ⟨⟨k + 1, by omega, by go_num, ⟨_, by rw [Array.size_setIfInBounds]; exact Q3.out, by rw [Array.size_setIfInBounds]; omega⟩, HFK.out.set (.inl rfl) _⟩, by simp [intOf]; omega⟩
                  · have hgn := HGN.out
                    have hsq : Src.Scr w4.heap.size b ob l0 j1 a1 wr := HS11.out.fr HFK.out (fun e => by omega) (fun g2 hg2 e => by have := (HB5.out.2 g2 hg2).2; have := HB6.out.1.1; have := HB6.out.1.2; have := HWN.out; omega)
                    have htq : Src.Scr w5.heap.size b2 ob2 l0 0 a1 wr := HT11.out.fr HFK.out (fun e => by have := HB6.out.1.2; have := HWN.out; omega) (fun g2 hg2 e => by have := (HB6.out.2 g2 hg2).2; have := HWN.out; omega)
                    obtain ⟨cs3, hcs3, _⟩ := HCS.out
                    have hoq := HFK.out.own HO11.out (fun g2 hg2 e => Bs.own_ne HO11.out hcs3 (show Spl.T8 ≠ Src.TX by decide) (by rw [hg2, e]))
                    have hfq : Fr (fun _ => False) w wr := HF11.out.trans HFK.out (fun k2 hk2 => .inr (by rw [hk2]; have := HWB.out; omega))
                    have hnq : n7 ≤ wr.heap.size := by have := HFK.out.size; have := HG11.out; omega
                    have HSN := Lib.hid hsq
                    have HTN := Lib.hid htq
                    have HON := Lib.hid hoq
                    have HFN := Lib.hid hfq
                    have HNN := Lib.hid hnq
                    clear hsq htq hoq hfq hnq hcs hcs3
                    go_wp2_with fail
                    exact ⟨⟨i + 1, j1, by omega, hj1, by go_num, HTD1.out, HSN.out, HTN.out, HON.out, HFN.out, HNN.out⟩, by simp [intOf]; omega⟩
            · have hij : i = tw.length := by omega
              have htij := HTIJ.out
              rw [hij, List.drop_length] at htij
              have HTE := Lib.hid htij
              clear htij HTIJ HOQ hij
              go_wp2_with fail
              go_loopw [19] (fun v19 wq => ∃ m j2 : Nat, m ≤ 2 ∧ j2 ≤ l0.length ∧ v19 = .int .i64 m ∧ Src.told a1 j2 (l0.drop j2) = ([], te) ∧ Src.Scr w4.heap.size b ob l0 j2 a1 wq ∧ Src.Scr w5.heap.size b2 ob2 l0 0 a1 wq ∧ Fr (fun _ => False) w wq) (fun v19 _ => 2 - (intOf v19).toNat)
              case atStart => exact ⟨0, j, by omega, hj, rfl, HTE.out, HSQ.out, HTQ.out, HFQ.out⟩
              case round =>
                obtain ⟨m, j2, hm, hj2, rfl, hte2, hs2, ht2, hf2⟩ := hrel
                have HTE2 := Lib.hid hte2
                have HS2 := Lib.hid hs2
                have HT2 := Lib.hid ht2
                have HFW2 := Lib.hid hf2
                clear hte2 hs2 ht2 hf2 HTE HSQ HTQ HFQ HNQ
                by_cases hm2 : m < 2
                · have hnc := Src.next_c w4.heap.size b ob l0 j2 a1 wr HS2.out hj2 (by omega)
                  have htd := Src.tells_drop (fail := a1) hj2
                  generalize Src.nxt a1 j2 (l0.drop j2) = qq at hnc htd
                  obtain ⟨o, e1, j1⟩ := qq
                  have HNC := Lib.hid hnc
                  have HTD := Lib.hid htd
                  clear hnc htd
                  go_wp2_with fail
                  refine HNC.out.mono ?_
                  rintro e w11 ⟨w0, hw0, hh, hs11, hf11⟩
                  have HS11 := Lib.hid hs11
                  have HT11 := Lib.hid (HT2.out.fr hf11 (fun e => by have := HB5.out.1.2; have := HB6.out.1.1; omega) (fun g hg e => by have := HB5.out.1.2; have := (HB6.out.2 g hg).1; omega))
                  have HF11 := Lib.hid (HFW2.out.trans hf11 (fun k hk => .inr (by rw [hk]; exact HWB.out)))
                  cases o with
                  | some s =>
                    obtain ⟨_, _, _, h3, _⟩ := HTD.out
                    rw [HTE2.out] at h3
                    injection h3 with h3 _
                    cases h3
                  | none =>
                    obtain ⟨h1, h2, h3, h4⟩ := HTD.out
                    rw [HTE2.out] at h3
                    injection h3 with _ h3
                    subst h3
                    rw [Src.drop_back h1] at h4
                    have hln : (l0.drop j2).length = l0.length - j2 := List.length_drop
                    have hj1 : j1 ≤ l0.length := by omega
                    have := hh
                    unfold Src.Hands at this
                    subst this
                    have HTD1 := Lib.hid h4
                    clear h1 h2 h4 hh hw0 hs11 hf11 hln HNC HTD HTE2 HS2 HT2 HFW2
                    go_wp2_with fail
                    exact ⟨⟨m + 1, j1, by omega, hj1, by go_num, HTD1.out, HS11.out, HT11.out, HF11.out⟩, by simp [intOf]; omega⟩
                · have hpl : (Pure.wholeL (Src.told a1 0 l0).1).length ≤ 1000000 := by rw [HT.out]; show (Pure.wholeL tw).length ≤ 1000000; omega
                  have hall : ∀ (S : ByteArray) (E : Int), S = Src.allS (tw, te) → E = te → Calls Try.prog 33 #[.iface Src.PC (.pointer (some ⟨b2, 0, none⟩))] wr fun e w' => e = .returned (.tuple #[.string S, .int .i64 E]) ∧ Fr (fun k => k = b2) wr w' :=
                    fun S E hS hE => Src.All_scr w5.heap.size b2 ob2 l0 a1 wr HT2.out (by omega) hpl S E (by rw [HT.out]; exact hS) (by rw [HT.out]; exact hE)
                  have hwb2 : w.heap.size ≤ b2 := by have := HWB.out; have := HB5.out.1.2; have := HB6.out.1.1; omega
                  clear hpl HS2 HT2 HTE2
                  rcases hte with h0 | h3
                  · have h0' : te = 0 := h0
                    clear h0
                    subst h0'
                    have hA := hall ALL 0 (by rw [Src.allS, if_pos rfl]; exact HALL.out) rfl
                    have HA := Lib.hid hA
                    clear hall hA
                    go_wp2_with fail
                    refine HA.out.mono ?_
                    rintro e w12 ⟨rfl, hf12⟩
                    have HF12 := Lib.hid (HFW2.out.trans hf12 (fun k hk => .inr (by rw [hk]; exact hwb2)))
                    clear hf12 HA
                    go_wp2_with fail
                    go_ret
                    exact ⟨by rfl, HF12.out.toBelow (fun _ h => h.elim) (Nat.le_refl _)⟩
                  · have h3' : te = 3 := h3
                    clear h3
                    subst h3'
                    have hA := hall ByteArray.empty 3 (by rw [Src.allS, if_neg (show ¬ (3 : Int) = 0 by decide)]) rfl
                    have HA := Lib.hid hA
                    clear hall hA
                    go_wp2_with fail
                    refine HA.out.mono ?_
                    rintro e w12 ⟨rfl, hf12⟩
                    have HF12 := Lib.hid (HFW2.out.trans hf12 (fun k hk => .inr (by rw [hk]; exact hwb2)))
                    clear hf12 HA
                    have hee : ByteArray.empty.toList = [] := by rw [ByteArray.toList_eq]; rfl
                    go_wp2_with fail
                    go_ret
                    exact ⟨by rfl, HF12.out.toBelow (fun _ h => h.elim) (Nat.le_refl _)⟩
  · cases h
end Go.Proofs.Ytmldibphbilghaa.Pr
