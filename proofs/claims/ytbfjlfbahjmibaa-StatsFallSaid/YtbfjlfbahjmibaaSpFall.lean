/- Plain facts: what the document learns of a table (for StatsFall). -/
import Derived.Test.YtbfjlfbahjmibaaBpe6
import Derived.Test.YtbfjlfbahjmibaaTab
import Derived.Test.YtbfjlfbahjmibaaPr35
import Derived.Test.YtbfjlfbahjmibaaPr19
namespace Go.Proofs.Ytbfjlfbahjmibaa.Bpe
open Go.RowKit Go.Proofs.YtbfjlfbahjmibaaW.PrintWords Go.Proofs.Ytbfjlfbahjmibaa.Pr
open Go.Proofs.Ytbfjlfbahjmibaa.Tab (InR Fine good pr1 dotGo mulv addv table_check ref_check rd35 rd45 wf_i64)
set_option linter.unusedVariables false
set_option linter.unusedSimpArgs false
/-! ### a table that is right -/
def tsOf (l : List S35) : List (List UInt8) := l.map fun x => tx x.f0
def csOf (l : List S35) : List Int := l.map fun x => x.f1
theorem Ws_of (l : List S35) : Ws (tsOf l) [] = l.map fun x => base (tx x.f0) := by
  rw [Ws, tsOf, List.map_map]
  rfl
theorem dotGo_tot : ∀ (l : List S35) (acc : Int), 0 ≤ acc → acc ≤ 9223372036854775807 → (∀ x ∈ l, 1 ≤ x.f1) → (dotGo acc (l.map (·.f1)) (l.map pr1)).2 = true → acc + tot (l.map fun x => base (tx x.f0)) (l.map (·.f1)) ≤ 9223372036854775807
  | [], acc, h0, h1, hc, h => by simpa [tot] using h1
  | x :: l, acc, h0, h1, hc, h => by
    have hx := hc x (by simp)
    rw [List.map_cons, List.map_cons, dotGo] at h
    rw [List.map_cons, List.map_cons, tot, if_neg (by omega)]
    have hlen : ((base (tx x.f0)).length - 1 : Nat) = x.f0.size - 1 := by simp [base, tx_size]
    rw [hlen]
    have hp : pr1 x = ((x.f0.size - 1 : Nat) : Int) := by unfold pr1; omega
    rw [hp] at h
    unfold mulv at h
    split at h
    · rename_i hm
      rw [if_pos rfl] at h
      unfold addv at h
      split at h
      · rename_i ha
        rw [if_pos rfl] at h
        have := dotGo_tot l (acc + x.f1 * ((x.f0.size - 1 : Nat) : Int)) (by omega) ha.2.2 (fun y hy => hc y (List.mem_cons_of_mem _ hy)) h
        omega
      · simp at h
    · simp at h
theorem good_counts : ∀ (a : ByteArray) (l : List S35), good a l = true → ∀ x ∈ l, 1 ≤ x.f1
  | _, [], _, x, hx => by cases hx
  | a, y :: l, h, x, hx => by
    rw [good] at h
    split at h
    · cases h
    · split at h
      · cases h
      · split at h
        · rcases List.mem_cons.1 hx with rfl | hx
          · omega
          · exact good_counts _ l h x hx
        · cases h
theorem okay_of {l : List S35} (h : Fine l) (hg : good ByteArray.empty l = true) (hd : (dotGo 0 (l.map (·.f1)) (l.map pr1)).2 = true) : Okay (tsOf l) (csOf l) := by
  refine ⟨by simpa [tsOf] using h.1, fun t ht => ?_, by simp [tsOf, csOf], fun c hc => ?_, ?_⟩
  · obtain ⟨x, hx, rfl⟩ := List.mem_map.1 ht
    rw [tx_size]
    exact (h.2 x hx).1
  · obtain ⟨x, hx, rfl⟩ := List.mem_map.1 hc
    exact ⟨good_counts _ _ hg x hx, (h.2 x hx).2.2⟩
  · have := dotGo_tot l 0 (by omega) (by omega) (good_counts _ _ hg) hd
    rw [Int.zero_add, ← Ws_of] at this
    exact this
section
variable {l : List S35}
theorem rlearn_l0 (hf : Fine l) (b least : Int) (k2 : Nat) (hk2 : 200 ≤ k2) : ∀ m i k, i + m = l.length → k = k2 + m + 1 → gluepotref16_Learn.l0 k l b least [] ((l.take i).map fun x => base (tx x.f0)) ((l.take i).map (·.f1)) (i : Int) = gluepotref16_Learn.l1 k2 b least [] (Ws (tsOf l) []) (csOf l) := by
  intro m
  induction m with
  | zero =>
    intro i k hi hk
    subst hk
    rw [gluepotref16_Learn.l0, if_neg (by omega), List.take_of_length_le (by omega), Ws_of]
    rfl
  | succ m ih =>
    intro i k hi hk
    subst hk
    have hlt : i < l.length := by omega
    have h60 := hf.1
    have hx := (hf.2 _ (List.getElem_mem hlt)).1
    rw [show k2 + (m + 1) + 1 = (k2 + m + 1) + 1 by omega, gluepotref16_Learn.l0, if_pos (by omega), if_pos (by omega), rd35 l i hlt, rtexts_f _ (by omega) _ (by omega), Option.bind_some, if_pos (by simp; omega), if_pos (by simp; omega), wi i (by omega)]
    have := ih (i + 1) (k2 + m + 1) (by omega) rfl
    rw [List.take_succ_eq_append_getElem hlt, List.map_append, List.map_append] at this
    exact this
end
section
variable {ws : List (List ByteArray)} {cs : List Int}
theorem rlearn_l2 (hw : ws.length ≤ 60) (hl : ∀ w ∈ ws, w.length ≤ 100) {L R : ByteArray} (hL : L.size ≤ 100) (hR : R.size ≤ 100) (b least : Int) (o : List S45) (k2 : Nat) (hk2 : 200 ≤ k2) : ∀ m i k, i + m = ws.length → k = k2 + m + 1 →
    gluepotref16_Learn.l2 k b least o ws cs ((ws.take i).map (jn L R)) (i : Int) L R = gluepotref16_Learn.l1 k2 b least o (ws.map (jn L R)) cs := by
  intro m
  induction m with
  | zero =>
    intro i k hi hk
    subst hk
    rw [gluepotref16_Learn.l2, if_neg (by omega), List.take_of_length_le (by omega)]
  | succ m ih =>
    intro i k hi hk
    subst hk
    have hlt : i < ws.length := by omega
    have hx := hl _ (List.getElem_mem hlt)
    rw [show k2 + (m + 1) + 1 = (k2 + m + 1) + 1 by omega, gluepotref16_Learn.l2, if_pos (by omega), if_pos (by omega), rdW ws i hlt, rjoin_f (by omega) (by omega) (by omega) (by omega), Option.bind_some, if_pos (by simp; omega), wi i (by omega)]
    have := ih (i + 1) (k2 + m + 1) (by omega) rfl
    rw [List.take_succ_eq_append_getElem hlt, List.map_append] at this
    exact this
end
theorem learn_at {ts cs} (h : Okay ts cs) (b : Int) {least : Int} (hl : 1 ≤ least) : ∀ N o, rem (Ws ts o) ≤ N → o.length + rem (Ws ts o) ≤ 10000 → ∃ r, Lrn ts cs b least o r ∧ ∀ k, 38300300 + N * 100 ≤ k → gluepotref16_Learn.l1 k b least o (Ws ts o) cs = some r := by
  intro N
  induction N with
  | zero =>
    intro o hN ho
    obtain ⟨L, R, n, hb, hk1, hk2⟩ := h.best o
    by_cases h1 : b ≤ (o.length : Int)
    · refine ⟨o, .full h1, fun k hk => ?_⟩
      obtain ⟨k, rfl⟩ : ∃ k', k = k' + 1 := ⟨k - 1, by omega⟩
      rw [gluepotref16_Learn.l1, if_neg (by omega)]
    · by_cases h2 : n < least
      · refine ⟨o, .stop (by omega) hb h2, fun k hk => ?_⟩
        obtain ⟨k, rfl⟩ : ∃ k', k = k' + 1 := ⟨k - 1, by omega⟩
        rw [gluepotref16_Learn.l1, if_pos (by omega), hk1, Option.bind_some, if_pos h2]
      · have := Lrn.next (budget := b) hl hb (by omega)
        omega
  | succ N ih =>
    intro o hN ho
    obtain ⟨L, R, n, hb, hk1, hk2⟩ := h.best o
    by_cases h1 : b ≤ (o.length : Int)
    · refine ⟨o, .full h1, fun k hk => ?_⟩
      obtain ⟨k, rfl⟩ : ∃ k', k = k' + 1 := ⟨k - 1, by omega⟩
      rw [gluepotref16_Learn.l1, if_neg (by omega)]
    · by_cases h2 : n < least
      · refine ⟨o, .stop (by omega) hb h2, fun k hk => ?_⟩
        obtain ⟨k, rfl⟩ : ∃ k', k = k' + 1 := ⟨k - 1, by omega⟩
        rw [gluepotref16_Learn.l1, if_pos (by omega), hk1, Option.bind_some, if_pos h2]
      · have hn := Lrn.next (budget := b) hl hb (by omega)
        obtain ⟨hL, hR⟩ := IsBest.sizes h hb
        obtain ⟨r, hr, hr2⟩ := ih (o ++ [⟨L, R⟩]) (by omega) (by rw [List.length_append, List.length_singleton]; omega)
        have hm := h.many
        have hwl : (Ws ts o).length ≤ 60 := by rw [Ws_len]; exact hm
        refine ⟨r, .step (by omega) hb (by omega) hr, fun k hk => ?_⟩
        obtain ⟨k, rfl⟩ : ∃ k', k = (k' + (Ws ts o).length + 1) + 1 := ⟨k - (Ws ts o).length - 2, by omega⟩
        have g2 := hr2 k (by omega)
        rw [Ws_snoc] at g2
        have r2 := rlearn_l2 (cs := cs) hwl h.lens hL hR b least (o ++ [⟨L, R⟩]) k (by omega) (Ws ts o).length 0 (k + (Ws ts o).length + 1) (by omega) rfl
        rw [List.take_zero, List.map_nil, g2] at r2
        rw [gluepotref16_Learn.l1, if_pos (by omega), hk1, Option.bind_some, if_neg h2, if_pos (by omega)]
        exact r2
/-- What the document learns of any table. -/
theorem rlearn_f (l : List S35) (hf : Fine l) : (∀ b least, ∃ k0, ∀ k, k0 ≤ k → gluepotref16_Learn.f k l b least = some []) ∨
    Okay (tsOf l) (csOf l) ∧ ∀ b least, (least < 1 ∧ ∃ k0, ∀ k, k0 ≤ k → gluepotref16_Learn.f k l b least = some []) ∨ (1 ≤ least ∧ ∃ r, Lrn (tsOf l) (csOf l) b least [] r ∧ ∃ k0, ∀ k, k0 ≤ k → gluepotref16_Learn.f k l b least = some r) := by
  obtain ⟨p', e', hk2, he'⟩ := ref_check l hf
  by_cases hg : good ByteArray.empty l = true ∧ (dotGo 0 (l.map (·.f1)) (l.map pr1)).2 = true
  · have h0' := he'.2 hg
    subst h0'
    have hok := okay_of hf hg.1 hg.2
    refine .inr ⟨hok, fun b least => ?_⟩
    by_cases hl : least < 1
    · refine .inl ⟨hl, 1000, fun k hk => ?_⟩
      obtain ⟨k', rfl⟩ : ∃ k', k = k' + 1 := ⟨k - 1, by omega⟩
      rw [gluepotref16_Learn.f, hk2 _ hk, Option.bind_some, if_pos rfl, gluepotref16_Learn.j0, if_pos (by simpa using hl)]
    · obtain ⟨r, hr, hk3⟩ := learn_at hok b (least := least) (by omega) (rem (Ws (tsOf l) [])) [] (Nat.le_refl _) (by have := hok.rem (o := []); simp; omega)
      have hrm := hok.rem (o := [])
      refine .inr ⟨by omega, r, hr, 40000000 + l.length, fun k hk => ?_⟩
      obtain ⟨k', rfl⟩ : ∃ k', k = (k' + l.length + 1) + 1 := ⟨k - l.length - 2, by omega⟩
      have g2 := hk3 k' (by omega)
      have r0 := rlearn_l0 hf b least k' (by omega) l.length 0 (k' + l.length + 1) (by omega) rfl
      rw [List.take_zero, List.map_nil, List.map_nil, g2] at r0
      rw [gluepotref16_Learn.f, hk2 _ (by omega), Option.bind_some, if_pos rfl, gluepotref16_Learn.j0, if_neg (by simpa using hl)]
      exact r0
  · have h0' : ¬ e' = 0 := fun h => hg (he'.1 h)
    refine .inl fun b least => ⟨1000, fun k hk => ?_⟩
    obtain ⟨k', rfl⟩ : ∃ k', k = k' + 1 := ⟨k - 1, by omega⟩
    rw [gluepotref16_Learn.f, hk2 _ hk, Option.bind_some, if_neg h0', gluepotref16_Learn.j0, if_pos rfl]
theorem great7 (l : List S35) (B : Int) (hl : l.length ≤ 9223372036854775807) : ∃ b, (∀ k, l.length + 1 ≤ k → gluepotref07_Great.f k l B = some b) ∧ (b = false → (l.length : Int) ≤ B ∧ ∀ x ∈ l, x.f0.size ≤ 100) := by
  have loop : ∀ m i, i + m = l.length → ∃ b, (∀ k, m + 1 ≤ k → gluepotref07_Great.l0 k l B (i : Int) = some b) ∧ (b = false → (l.length : Int) ≤ B ∧ ∀ x ∈ l.drop i, x.f0.size ≤ 100) := by
    intro m
    induction m with
    | zero =>
      intro i hi
      refine ⟨decide ((l.length : Int) > B), fun k hk => ?_, fun h => ⟨by have := of_decide_eq_false h; omega, fun x hx => ?_⟩⟩
      · obtain ⟨k, rfl⟩ : ∃ k', k = k' + 1 := ⟨k - 1, by omega⟩
        rw [gluepotref07_Great.l0, if_neg (by omega)]
      · rw [List.drop_of_length_le (by omega)] at hx; cases hx
    | succ m ih =>
      intro i hi
      have hlt : i < l.length := by omega
      have hd : l.drop i = l[i] :: l.drop (i + 1) := List.drop_eq_getElem_cons hlt
      by_cases h : ((l[i].f0.size : Nat) : Int) > 100
      · refine ⟨true, fun k hk => ?_, fun h => by cases h⟩
        obtain ⟨k, rfl⟩ : ∃ k', k = k' + 1 := ⟨k - 1, by omega⟩
        rw [gluepotref07_Great.l0, if_pos (by omega), if_pos (by omega), rd35 l i hlt, if_pos h]
      · obtain ⟨b, hb, hf⟩ := ih (i + 1) (by omega)
        refine ⟨b, fun k hk => ?_, fun hb => ⟨(hf hb).1, fun x hx => ?_⟩⟩
        · obtain ⟨k, rfl⟩ : ∃ k', k = k' + 1 := ⟨k - 1, by omega⟩
          rw [gluepotref07_Great.l0, if_pos (by omega), if_pos (by omega), rd35 l i hlt, if_neg h, wi i (by omega)]
          exact hb k (by omega)
        · rw [hd] at hx
          rcases List.mem_cons.1 hx with rfl | hx
          · omega
          · exact (hf hb).2 x hx
  obtain ⟨b, h1, h2⟩ := loop l.length 0 (by omega)
  exact ⟨b, h1, fun h => by simpa using h2 h⟩
theorem positions (l : List S35) (hl : l.length ≤ 1000) : ∃ t, ∀ k, l.length + 1 ≤ k → gluepotref08_Positions.f k l = some t := by
  have loop : ∀ m i (x : Int), i + m = l.length → ∃ t, ∀ k, m + 1 ≤ k → gluepotref08_Positions.l0 k l x (i : Int) = some t := by
    intro m
    induction m with
    | zero =>
      intro i x hi
      refine ⟨x, fun k hk => ?_⟩
      obtain ⟨k, rfl⟩ : ∃ k', k = k' + 1 := ⟨k - 1, by omega⟩
      rw [gluepotref08_Positions.l0, if_neg (by omega)]
    | succ m ih =>
      intro i x hi
      have hlt : i < l.length := by omega
      obtain ⟨t, ht⟩ := ih (i + 1) (wrap64 (x + ((rd_T35 l (i : Int)).f0.size : Int))) (by omega)
      refine ⟨t, fun k hk => ?_⟩
      obtain ⟨k, rfl⟩ : ∃ k', k = k' + 1 := ⟨k - 1, by omega⟩
      rw [gluepotref08_Positions.l0, if_pos (by omega), if_pos (by omega), wi i (by omega)]
      exact ht k (by omega)
  exact loop l.length 0 0 (by omega)
theorem Lrn.len {ts cs} {budget least : Int} (hl : 1 ≤ least) {o r : List S45} (h : Lrn ts cs budget least o r) : r.length ≤ o.length + rem (Ws ts o) := by
  induction h with
  | full _ => omega
  | stop _ _ _ => omega
  | step _ h2 h3 _ ih =>
    have := Lrn.next (budget := budget) hl h2 h3
    rw [List.length_append, List.length_singleton] at ih
    omega
theorem Lrn.sizes {ts cs} (h : Okay ts cs) {budget least : Int} {o r : List S45} (hr : Lrn ts cs budget least o r) (ho : ∀ x ∈ o, x.f0.size ≤ 100 ∧ x.f1.size ≤ 100) : ∀ x ∈ r, x.f0.size ≤ 100 ∧ x.f1.size ≤ 100 := by
  induction hr with
  | full _ => exact ho
  | stop _ _ _ => exact ho
  | step _ h2 _ _ ih =>
    refine ih fun x hx => ?_
    rcases List.mem_append.1 hx with hx | hx
    · exact ho x hx
    · rw [List.mem_singleton.1 hx]
      exact IsBest.sizes h h2
end Go.Proofs.Ytbfjlfbahjmibaa.Bpe
