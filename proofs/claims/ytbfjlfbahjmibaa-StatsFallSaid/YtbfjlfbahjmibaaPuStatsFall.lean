/- The plain law of StatsFall: the gains of what was learnt never rise, none is below the least count, and what is saved is at most their sum. -/
import Derived.Test.YtbfjlfbahjmibaaSpFall
import Derived.Test.YtbfjlfbahjmibaaHThrough
import Derived.Test.YtbfjlfbahjmibaaPr13
import Derived.Test.YtbfjlfbahjmibaaPr15
import Derived.Test.YtbfjlfbahjmibaaPr18
import Derived.Test.YtbfjlfbahjmibaaPr36
namespace Go.Proofs.Ytbfjlfbahjmibaa.Pure
open Go.RowKit Go.Proofs.Ytbfjlfbahjmibaa.Pr Go.Proofs.Ytbfjlfbahjmibaa.Bpe Go.Proofs.YtbfjlfbahjmibaaW.PrintWords
open Go.Proofs.Ytbfjlfbahjmibaa.Tab (InR Fine good pr1 dotGo table_check ref_check rd35 rd45 wf_i64)
set_option linter.unusedVariables false
set_option linter.unusedSimpArgs false
/-! ### what was learnt, step by step -/
def Every (P : List S45 → S45 → Prop) (r : List S45) : Prop := ∀ o x p, r = o ++ x :: p → P o x
theorem Every.snoc {P : List S45 → S45 → Prop} {o : List S45} {x : S45} (h : Every P o) (hx : P o x) : Every P (o ++ [x]) := fun o' x' p e => by
  rcases List.append_eq_append_iff.1 e with ⟨a, h1, h2⟩ | ⟨a, h1, h2⟩
  · cases a with
    | nil =>
      simp at h1 h2
      obtain ⟨rfl, _⟩ := h2
      rw [h1]
      exact hx
    | cons y a =>
      rw [List.cons_append] at h2
      have := congrArg List.length h2
      simp at this
  · cases a with
    | nil =>
      simp at h1 h2
      obtain ⟨rfl, _⟩ := h2
      rw [← h1]
      exact hx
    | cons y a =>
      rw [List.cons_append] at h2
      injection h2 with h2 h3
      subst h2
      exact h o' x' a h1
theorem lrn_every {ts cs} {budget least : Int} {o r : List S45} (h : Lrn ts cs budget least o r) (ho : Every (fun o x => ∃ n, IsBest (Ws ts o) cs x.f0 x.f1 n ∧ least ≤ n) o) : Every (fun o x => ∃ n, IsBest (Ws ts o) cs x.f0 x.f1 n ∧ least ≤ n) r := by
  induction h with
  | full _ => exact ho
  | stop _ _ _ => exact ho
  | step _ h2 h3 _ ih => exact ih (ho.snoc ⟨_, h2, h3⟩)
theorem wc_mono {a b c d e f : ByteArray} : ∀ {ws : List (List ByteArray)} {cs : List Int}, (∀ w ∈ ws, pc c d (jn a b w) ≤ pc e f w) → wc c d (ws.map (jn a b)) cs ≤ wc e f ws cs
  | [], _, _ => by simp [wc]
  | _ :: _, [], _ => by simp [wc]
  | w :: ws, n :: cs, h => by
    have ih := wc_mono (cs := cs) (fun x hx => h x (List.mem_cons_of_mem _ hx))
    have h0 := h w (by simp)
    rw [List.map_cons, wc, wc]
    split
    · omega
    · have : n * (pc c d (jn a b w) : Int) ≤ n * (pc e f w : Int) := Int.mul_le_mul_of_nonneg_left (by omega) (by omega)
      omega
theorem fall {ts cs} {o : List S45} {x : S45} {n : Int} (hb : IsBest (Ws ts o) cs x.f0 x.f1 n) (h1 : 1 ≤ n) (c d : ByteArray) : wc c d (Ws ts (o ++ [x])) cs ≤ n := by
  rw [Ws_snoc]
  by_cases h : c = x.f0 ++ x.f1 ∨ d = x.f0 ++ x.f1
  · obtain ⟨t, ht, hp⟩ := IsBest.there hb h1
    rw [hb.wc h1]
    refine wc_mono fun w hw => ?_
    obtain ⟨t', ht', rfl⟩ := List.mem_map.1 hw
    exact pc_new (fresh hp) h
  · refine Int.le_trans (wc_mono (e := c) (f := d) fun w hw => pc_old' (fun e => h (.inl e)) (fun e => h (.inr e)) w) (hb.le c d)
/-- The symbols, each word as often as it is there. -/
def tlen : List (List ByteArray) → List Int → Int
  | w :: ws, c :: cs => c * (w.length : Int) + tlen ws cs
  | _, _ => 0
theorem tlen_ge (a b : ByteArray) : ∀ (ws : List (List ByteArray)) (cs : List Int), (∀ c ∈ cs, 1 ≤ c) → tlen ws cs ≤ tlen (ws.map (jn a b)) cs + wc a b ws cs ∧ tlen (ws.map (jn a b)) cs ≤ tlen ws cs ∧ (1 ≤ wc a b ws cs → tlen (ws.map (jn a b)) cs + 1 ≤ tlen ws cs)
  | [], _, _ => by simp [tlen, wc]
  | _ :: _, [], _ => by simp [tlen, wc]
  | w :: ws, c :: cs, h => by
    obtain ⟨h1, h2, h3⟩ := tlen_ge a b ws cs (fun x hx => h x (List.mem_cons_of_mem _ hx))
    have hc := h c (by simp)
    have g1 := jn_len_ge (a := a) (b := b) w
    have g2 := jn_len_le (a := a) (b := b) w
    rw [List.map_cons, tlen, tlen, wc, if_neg (by omega)]
    have e1 : c * (w.length : Int) ≤ c * ((jn a b w).length : Int) + c * (pc a b w : Int) := by
      rw [← Int.mul_add]
      exact Int.mul_le_mul_of_nonneg_left (by omega) (by omega)
    have e2 : c * ((jn a b w).length : Int) ≤ c * (w.length : Int) := Int.mul_le_mul_of_nonneg_left (by omega) (by omega)
    refine ⟨by omega, by omega, fun hw => ?_⟩
    by_cases hp : 1 ≤ pc a b w
    · have g3 := jn_len_lt w hp
      have e3 : c * (((jn a b w).length : Int) + 1) ≤ c * (w.length : Int) := Int.mul_le_mul_of_nonneg_left (by omega) (by omega)
      rw [Int.mul_add, Int.mul_one] at e3
      omega
    · have : pc a b w = 0 := by omega
      rw [this] at hw
      have := h3 (by simpa using hw)
      omega
/-! ### through -/
def gv (F : Nat → Int) (n : Nat) : List Int := (List.range n).map F
theorem gv_len (F : Nat → Int) (n : Nat) : (gv F n).length = n := by simp [gv]
theorem gv_rd (F : Nat → Int) (n i : Nat) (h : i < n) : rd (gv F n) (i : Int) = F i := by
  rw [rdI _ i (by rw [gv_len]; exact h)]
  simp [gv]
theorem gv_set (F : Nat → Int) (n i : Nat) (v : Int) : (gv F n).set i v = gv (fun j => if j = i then v else F j) n := by
  apply List.ext_getElem
  · simp [gv]
  · intro j h1 h2
    rw [List.getElem_set]
    simp only [gv, List.getElem_map, List.getElem_range]
    by_cases e : i = j
    · rw [if_pos e, if_pos e.symm]
    · rw [if_neg e, if_neg (fun h => e h.symm)]
theorem gv_congr {F G : Nat → Int} {n : Nat} (h : ∀ j, j < n → F j = G j) : gv F n = gv G n := List.map_congr_left fun j hj => h j (List.mem_range.1 hj)
def wd (m : List S45) (j : Nat) (x : S35) : List ByteArray := seg (m.take j) (base (tx x.f0))
def gs (m : List S45) (j : Nat) (ws : List S35) : Int := wc (rd_T45 m (j : Int)).f0 (rd_T45 m (j : Int)).f1 (Ws (tsOf ws) (m.take j)) (csOf ws)
def sv (m : List S45) (ws : List S35) : Int := tlen (Ws (tsOf ws) []) (csOf ws) - tlen (Ws (tsOf ws) m) (csOf ws)
theorem wc_app (a b : ByteArray) : ∀ (ws : List (List ByteArray)) (cs : List Int) (w : List ByteArray) (c : Int), ws.length = cs.length → 1 ≤ c → wc a b (ws ++ [w]) (cs ++ [c]) = wc a b ws cs + c * (pc a b w : Int)
  | [], [], w, c, _, hc => by simp [wc]; omega
  | [], _ :: _, _, _, h, _ => by simp at h
  | _ :: _, [], _, _, h, _ => by simp at h
  | x :: ws, y :: cs, w, c, h, hc => by
    have := wc_app a b ws cs w c (by simpa using h) hc
    rw [List.cons_append, List.cons_append, wc, wc, this]
    omega
theorem tlen_app : ∀ (ws : List (List ByteArray)) (cs : List Int) (w : List ByteArray) (c : Int), ws.length = cs.length → tlen (ws ++ [w]) (cs ++ [c]) = tlen ws cs + c * (w.length : Int)
  | [], [], w, c, _ => by simp [tlen]
  | [], _ :: _, _, _, h => by simp at h
  | _ :: _, [], _, _, h => by simp at h
  | x :: ws, y :: cs, w, c, h => by
    have := tlen_app ws cs w c (by simpa using h)
    rw [List.cons_append, List.cons_append, tlen, tlen, this]
    omega
theorem Ws_app (ws : List S35) (x : S35) (o : List S45) : Ws (tsOf (ws ++ [x])) o = Ws (tsOf ws) o ++ [seg o (base (tx x.f0))] ∧ csOf (ws ++ [x]) = csOf ws ++ [x.f1] ∧ (Ws (tsOf ws) o).length = (csOf ws).length := by
  simp [Ws, tsOf, csOf]
theorem gs_app (m : List S45) (j : Nat) (ws : List S35) (x : S35) (h : 1 ≤ x.f1) : gs m j (ws ++ [x]) = gs m j ws + x.f1 * (pc (rd_T45 m (j : Int)).f0 (rd_T45 m (j : Int)).f1 (wd m j x) : Int) := by
  obtain ⟨e1, e2, e3⟩ := Ws_app ws x (m.take j)
  rw [gs, e1, e2, wc_app _ _ _ _ _ _ e3 h]
  rfl
theorem sv_app (m : List S45) (ws : List S35) (x : S35) : sv m (ws ++ [x]) = sv m ws + x.f1 * ((x.f0.size : Int) - ((seg m (base (tx x.f0))).length : Int)) := by
  obtain ⟨e1, e2, e3⟩ := Ws_app ws x m
  obtain ⟨f1, f2, f3⟩ := Ws_app ws x []
  have hb : (seg [] (base (tx x.f0))).length = x.f0.size := by rw [seg_nil]; simp [base, tx_size]
  rw [sv, e1, e2, tlen_app _ _ _ _ e3, f1, tlen_app _ _ _ _ f3, hb, sv, Int.mul_sub]
  omega
/-- A table whose counts are within. -/
def Mild (l : List S35) : Prop := l.length ≤ 30 ∧ ∀ x ∈ l, x.f0.size ≤ 100 ∧ 1 ≤ x.f1 ∧ x.f1 ≤ 1000000
theorem mul_bd {c : Int} {n : Nat} (h1 : 1 ≤ c) (h2 : c ≤ 1000000) (hn : n ≤ 100) : 0 ≤ c * (n : Int) ∧ c * (n : Int) ≤ 100000000 := by
  have h3 : c * (n : Int) ≤ 1000000 * (n : Int) := Int.mul_le_mul_of_nonneg_right h2 (by omega)
  have h4 : 0 ≤ c * (n : Int) := Int.mul_nonneg (by omega) (by omega)
  exact ⟨h4, by omega⟩
theorem seg_size (o : List S45) (x : S35) : (seg o (base (tx x.f0))).length ≤ x.f0.size := by
  have := seg_len o (base (tx x.f0))
  simpa [base, tx_size] using this
theorem pc_size (a b : ByteArray) (w : List ByteArray) : pc a b w ≤ w.length := by have := pc_len (a := a) (b := b) w; omega
theorem gs_bd (m : List S45) (j : Nat) : ∀ n (ws : List S35), ws.length = n → (∀ x ∈ ws, x.f0.size ≤ 100 ∧ 1 ≤ x.f1 ∧ x.f1 ≤ 1000000) → 0 ≤ gs m j ws ∧ gs m j ws ≤ 100000000 * n ∧ 0 ≤ sv m ws ∧ sv m ws ≤ 100000000 * n := by
  intro n
  induction n with
  | zero =>
    intro ws h _
    rw [List.length_eq_zero_iff.1 h]
    simp [gs, sv, tsOf, csOf, Ws, wc, tlen]
  | succ n ih =>
    intro ws h hw
    obtain ⟨p, x, rfl⟩ : ∃ p x, ws = p ++ [x] := ⟨ws.dropLast, ws.getLast (by intro e; rw [e] at h; simp at h), (List.dropLast_concat_getLast _).symm⟩
    obtain ⟨h1, h2, h3⟩ := hw x (by simp)
    obtain ⟨g1, g2, g3, g4⟩ := ih p (by simp at h; exact h) (fun y hy => hw y (by simp [hy]))
    have hsz := seg_size (m.take j) x
    have hsz2 := seg_size m x
    have hb1 := mul_bd h2 h3 (n := pc (rd_T45 m (j : Int)).f0 (rd_T45 m (j : Int)).f1 (wd m j x)) (by have := pc_size (rd_T45 m (j : Int)).f0 (rd_T45 m (j : Int)).f1 (wd m j x); unfold wd at *; omega)
    have hb2 := mul_bd h2 h3 (n := x.f0.size - (seg m (base (tx x.f0))).length) (by omega)
    have e2 : ((x.f0.size - (seg m (base (tx x.f0))).length : Nat) : Int) = (x.f0.size : Int) - ((seg m (base (tx x.f0))).length : Int) := by omega
    rw [e2] at hb2
    rw [gs_app _ _ _ _ h2, sv_app]
    push_cast
    omega
theorem drop_two (w : List ByteArray) (j : Nat) (h : j + 1 < w.length) (a b : ByteArray) : pc a b (w.drop j) = (if w[j] = a ∧ w[j + 1] = b then 1 else 0) + pc a b (w.drop (j + 1)) := by
  rw [List.drop_eq_getElem_cons (by omega : j < w.length), List.drop_eq_getElem_cons h, pc_two]
theorem count_pc (w : List ByteArray) (a b : ByteArray) (hw : w.length ≤ 100000) (k : Nat) (hk : w.length + 1 ≤ k) : stats_count.f k w a b = some (pc a b w : Int) := by
  have loop : ∀ m i (n : Nat) k, i + m = w.length - 1 → i + m + 1 = w.length → m + 1 ≤ k → n ≤ i → stats_count.l0 k w (n : Int) ((w.length : Int) - 1) (i : Int) a b = some ((n + pc a b (w.drop i) : Nat) : Int) := by
    intro m
    induction m with
    | zero =>
      intro i n k hi hi2 hk hn
      obtain ⟨k, rfl⟩ : ∃ k', k = k' + 1 := ⟨k - 1, by omega⟩
      have hz : pc a b (w.drop i) = 0 := by
        have := pc_len (a := a) (b := b) (w.drop i)
        rw [List.length_drop] at this
        omega
      rw [stats_count.l0, if_neg (by omega), hz, Nat.add_zero]
    | succ m ih =>
      intro i n k hi hi2 hk hn
      obtain ⟨k, rfl⟩ : ∃ k', k = k' + 1 := ⟨k - 1, by omega⟩
      have h1 : i + 1 < w.length := by omega
      rw [stats_count.l0, wi i (by omega), wi n (by omega), if_pos (by omega), if_pos (by omega), if_pos (by omega), rdB w i (by omega), rdB w (i + 1) h1, drop_two w i h1]
      by_cases ha : w[i] = a
      · rw [if_pos (list_inj.2 ha), if_pos (by omega), if_pos (by omega)]
        by_cases hb : w[i + 1] = b
        · rw [if_pos (list_inj.2 hb), if_pos ⟨ha, hb⟩, ih (i + 1) (n + 1) k (by omega) (by omega) (by omega) (by omega), Nat.add_assoc]
        · rw [if_neg (fun h => hb (list_inj.1 h)), if_neg (fun h => hb h.2), ih (i + 1) n k (by omega) (by omega) (by omega) (by omega), Nat.zero_add]
      · rw [if_neg (fun h => ha (list_inj.1 h)), if_neg (fun h => ha h.1), ih (i + 1) n k (by omega) (by omega) (by omega) (by omega), Nat.zero_add]
  have hw1 : wrap64 ((w.length : Int) - 1) = (w.length : Int) - 1 := by unfold wrap64; omega
  rw [stats_count.f, hw1]
  by_cases h0 : w.length = 0
  · obtain ⟨k, rfl⟩ : ∃ k', k = k' + 1 := ⟨k - 1, by omega⟩
    rw [stats_count.l0, if_neg (by omega), List.length_eq_zero_iff.1 h0]
    rfl
  · have := loop (w.length - 1) 0 0 k (by omega) (by omega) (by omega) (Nat.le_refl _)
    rw [Nat.zero_add, List.drop_zero] at this
    exact this
theorem through_f (l : List S35) (h : Mild l) (m : List S45) (hml : m.length ≤ 10000) (hms : ∀ x ∈ m, x.f0.size ≤ 100 ∧ x.f1.size ≤ 100) (k : Nat) (hk : 400000 ≤ k) : stats_through.f k l m = some (gv (fun j => gs m j l) m.length, sv m l) := by
  have hlen := h.1
  obtain ⟨C, hC⟩ : ∃ C, C = m.length + 20 := ⟨_, rfl⟩
  have loop : ∀ q i k, i + q = l.length → q * C + 300 ≤ k → stats_through.l0 k m (gv (fun j => gs m j (l.take i)) m.length) (sv m (l.take i)) l (l.length : Int) (i : Int) = some (gv (fun j => gs m j l) m.length, sv m l) := by
    intro q
    induction q with
    | zero =>
      intro i k hi hk
      obtain ⟨k, rfl⟩ : ∃ k', k = k' + 1 := ⟨k - 1, by omega⟩
      rw [stats_through.l0, if_neg (by omega), show l.take i = l from List.take_of_length_le (by omega)]
    | succ q ih =>
      intro i k hi hk
      have hmul : (q + 1) * C = q * C + C := Nat.succ_mul _ _
      rw [hmul] at hk
      generalize q * C = X at ih hk
      clear hmul
      obtain ⟨k, rfl⟩ : ∃ k', k = k' + 1 := ⟨k - 1, by omega⟩
      have hlt : i < l.length := by omega
      obtain ⟨hs, hc1, hc2⟩ := h.2 _ (List.getElem_mem hlt)
      have hts : l.take (i + 1) = l.take i ++ [l[i]] := List.take_succ_eq_append_getElem hlt
      have hti : (l.take i).length = i := by simp; omega
      have htw : ∀ x ∈ l.take i, x.f0.size ≤ 100 ∧ 1 ≤ x.f1 ∧ x.f1 ≤ 1000000 := fun x hx => h.2 x (List.mem_of_mem_take hx)
      have ht1 : (l.take (i + 1)).length = i + 1 := by simp; omega
      have htw1 : ∀ x ∈ l.take (i + 1), x.f0.size ≤ 100 ∧ 1 ≤ x.f1 ∧ x.f1 ≤ 1000000 := fun x hx => h.2 x (List.mem_of_mem_take hx)
      have inner : ∀ n j k, j + n = m.length → n + 1 + X + 300 ≤ k → stats_through.l1 k m (gv (fun t => if t < j then gs m t (l.take (i + 1)) else gs m t (l.take i)) m.length) (sv m (l.take i)) (wd m j l[i]) l (l.length : Int) (i : Int) m (m.length : Int) (j : Int) l[i].f0 l[i].f1 = some (gv (fun j => gs m j l) m.length, sv m l) := by
        intro n
        induction n with
        | zero =>
          intro j k hj hk
          obtain ⟨k, rfl⟩ : ∃ k', k = k' + 1 := ⟨k - 1, by omega⟩
          have hg : gv (fun t => if t < j then gs m t (l.take (i + 1)) else gs m t (l.take i)) m.length = gv (fun t => gs m t (l.take (i + 1))) m.length := gv_congr (fun t ht => by rw [if_pos (by omega)])
          have hwd : wd m j l[i] = seg m (base (tx l[i].f0)) := by rw [wd, List.take_of_length_le (by omega)]
          have hsz := seg_size m l[i]
          have hb := mul_bd hc1 hc2 (n := l[i].f0.size - (seg m (base (tx l[i].f0))).length) (by omega)
          have e2 : ((l[i].f0.size - (seg m (base (tx l[i].f0))).length : Nat) : Int) = (l[i].f0.size : Int) - ((seg m (base (tx l[i].f0))).length : Int) := by omega
          rw [e2] at hb
          have hb2 := gs_bd m 0 i (l.take i) hti htw
          have hsv : wrap64 (sv m (l.take i) + wrap64 (l[i].f1 * wrap64 ((l[i].f0.size : Int) - ((seg m (base (tx l[i].f0))).length : Int)))) = sv m (l.take (i + 1)) := by
            rw [hts, sv_app, wrap_id (n := (l[i].f0.size : Int) - ((seg m (base (tx l[i].f0))).length : Int)) (by omega) (by omega), wrap_id (n := l[i].f1 * ((l[i].f0.size : Int) - ((seg m (base (tx l[i].f0))).length : Int))) (by omega) (by omega), wrap_id (by omega) (by omega)]
          rw [stats_through.l1, if_neg (by omega), hg, hwd, hsv, wi i (by omega)]
          exact ih (i + 1) k (by omega) (by omega)
        | succ n ihn =>
          intro j k hj hk
          obtain ⟨k, rfl⟩ : ∃ k', k = k' + 1 := ⟨k - 1, by omega⟩
          have hjl : j < m.length := by omega
          have hx := hms _ (List.getElem_mem hjl)
          have hwl := seg_size (m.take j) l[i]
          have hwl2 : (wd m j l[i]).length ≤ 100 := by unfold wd; omega
          have hrd := rd45 m j hjl
          have hb := mul_bd hc1 hc2 (n := pc m[j].f0 m[j].f1 (wd m j l[i])) (by have := pc_size m[j].f0 m[j].f1 (wd m j l[i]); omega)
          have hb2 := gs_bd m j i (l.take i) hti htw
          have hG : wrap64 (gs m j (l.take i) + wrap64 (l[i].f1 * (pc m[j].f0 m[j].f1 (wd m j l[i]) : Int))) = gs m j (l.take (i + 1)) := by
            rw [hts, gs_app _ _ _ _ hc1, hrd, wrap_id (n := l[i].f1 * (pc m[j].f0 m[j].f1 (wd m j l[i]) : Int)) (by omega) (by omega), wrap_id (by omega) (by omega)]
          have hset : (gv (fun t => if t < j then gs m t (l.take (i + 1)) else gs m t (l.take i)) m.length).set j (gs m j (l.take (i + 1))) = gv (fun t => if t < j + 1 then gs m t (l.take (i + 1)) else gs m t (l.take i)) m.length := by
            rw [gv_set]
            apply gv_congr
            intro t ht
            by_cases e : t = j
            · rw [if_pos e, if_pos (by omega), e]
            · rw [if_neg e]
              by_cases e2 : t < j
              · rw [if_pos e2, if_pos (by omega)]
              · rw [if_neg e2, if_neg (by omega)]
          have hr : rd (gv (fun t => if t < j then gs m t (l.take (i + 1)) else gs m t (l.take i)) m.length) (j : Int) = gs m j (l.take i) := by rw [gv_rd _ _ _ hjl, if_neg (by omega)]
          have hnext : jn m[j].f0 m[j].f1 (wd m j l[i]) = wd m (j + 1) l[i] := by rw [wd, wd, List.take_succ_eq_append_getElem hjl, seg_snoc]
          rw [stats_through.l1, hrd, wi j (by omega), if_pos (by omega), if_pos (by omega), if_pos (by omega), if_pos (by rw [gv_len]; omega), count_pc _ _ _ (by omega) k (by omega), Option.bind_some, njoin_f (by omega) (by omega) (by omega) (by omega), Option.bind_some, hr, hG, Int.toNat_natCast, hset, hnext]
          exact ihn (j + 1) k (by omega) (by omega)
      have htx : stats_texts.f l[i].f0 = some (wd m 0 l[i]) := by rw [stats_texts.f, if_pos (by omega)]; rfl
      rw [stats_through.l0, rd35 l i hlt, if_pos (by omega), if_pos (by omega), if_pos (by omega), htx, Option.bind_some]
      have := inner m.length 0 k (by omega) (by omega)
      have hz : gv (fun t => if t < 0 then gs m t (l.take (i + 1)) else gs m t (l.take i)) m.length = gv (fun t => gs m t (l.take i)) m.length := gv_congr (fun t ht => by rw [if_neg (by omega)])
      rw [hz] at this
      exact this
  have h0 : List.replicate m.length (0 : Int) = gv (fun j => gs m j (l.take 0)) m.length := by
    apply List.ext_getElem
    · simp [gv]
    · intro j h1 h2
      simp [gv, gs, tsOf, csOf, Ws, wc]
  have hz : sv m (l.take 0) = 0 := by simp [sv, tsOf, csOf, Ws, tlen]
  have hCl : l.length * C ≤ 30 * 10020 := Nat.mul_le_mul hlen (by omega)
  have := loop l.length 0 k (by omega) (by omega)
  rw [← h0, hz] at this
  rw [stats_through.f, if_pos (by omega), if_pos (by rw [Int.toNat_natCast]; omega), Int.toNat_natCast]
  exact this
/-! ### the law -/
set_option maxRecDepth 100000 in
theorem awake61 : gluepotlaw23_awake.f 61 = some true := by decide +kernel
theorem awake_ge : ∀ d, gluepotlaw23_awake.f (61 + d) = some true
  | 0 => awake61
  | d + 1 => gluepotlaw23_awake.mono (61 + d) _ (awake_ge d)
theorem awake_at {k : Nat} (hk : 61 ≤ k) : gluepotlaw23_awake.f k = some true := by
  obtain ⟨d, rfl⟩ : ∃ d, k = 61 + d := ⟨k - 61, by omega⟩
  exact awake_ge d
/-- What is known of what was learnt. -/
def Steps (l : List S35) (least : Int) (r : List S45) : Prop := Every (fun o x => ∃ n, IsBest (Ws (tsOf l) o) (csOf l) x.f0 x.f1 n ∧ least ≤ n ∧ 1 ≤ n) r
def ps (r : List S45) (l : List S35) : Nat → Int
  | 0 => 0
  | j + 1 => ps r l j + gs r j l
section
variable {l : List S35} {least : Int} {r : List S45}
theorem Steps.at (h : Steps l least r) (j : Nat) (hj : j < r.length) : ∃ n, IsBest (Ws (tsOf l) (r.take j)) (csOf l) r[j].f0 r[j].f1 n ∧ least ≤ n ∧ 1 ≤ n ∧ gs r j l = n := by
  obtain ⟨n, h1, h2, h3⟩ := h (r.take j) r[j] (r.drop (j + 1)) (by rw [← List.drop_eq_getElem_cons hj, List.take_append_drop])
  exact ⟨n, h1, h2, h3, by rw [gs, rd45 r j hj]; exact (h1.wc h3).symm⟩
theorem Steps.falls (h : Steps l least r) (j : Nat) (hj : j + 1 < r.length) : gs r (j + 1) l ≤ gs r j l := by
  obtain ⟨n, h1, h2, h3, h4⟩ := h.at j (by omega)
  rw [h4, gs, rd45 r (j + 1) hj, List.take_succ_eq_append_getElem (by omega : j < r.length)]
  exact fall h1 h3 _ _
theorem Steps.sums (h : Steps l least r) (hm : Mild l) : ∀ j, j ≤ r.length → tlen (Ws (tsOf l) []) (csOf l) ≤ tlen (Ws (tsOf l) (r.take j)) (csOf l) + ps r l j ∧ tlen (Ws (tsOf l) (r.take j)) (csOf l) + (j : Int) ≤ tlen (Ws (tsOf l) []) (csOf l) := by
  intro j
  induction j with
  | zero => intro _; simp [ps]
  | succ j ih =>
    intro hj
    obtain ⟨g1, g2⟩ := ih (by omega)
    obtain ⟨n, h1, h2, h3, h4⟩ := h.at j (by omega)
    have hc : ∀ c ∈ csOf l, 1 ≤ c := fun c hc => by
      obtain ⟨x, hx, rfl⟩ := List.mem_map.1 hc
      exact (hm.2 x hx).2.1
    obtain ⟨t1, t2, t3⟩ := tlen_ge r[j].f0 r[j].f1 (Ws (tsOf l) (r.take j)) (csOf l) hc
    rw [← Ws_snoc, ← List.take_succ_eq_append_getElem (by omega : j < r.length)] at t1 t2 t3
    have hn := h1.wc h3
    have t4 := t3 (by omega)
    rw [ps, h4]
    push_cast
    omega
theorem ps_bd (hm : Mild l) : ∀ j, 0 ≤ ps r l j ∧ ps r l j ≤ 3000000000 * (j : Int) := by
  intro j
  induction j with
  | zero => simp [ps]
  | succ j ih =>
    have := gs_bd r j l.length l rfl hm.2
    have := hm.1
    rw [ps]
    push_cast
    omega
theorem fall_l1 (h : Steps l least r) (hm : Mild l) (hr : r.length ≤ 10000) : ∀ d i k, i + d = r.length → d + 1 ≤ k → gluepotlaw23_StatsFall.l1 k least r (gv (fun j => gs r j l) r.length) (sv r l) (ps r l i) (i : Int) = some true := by
  intro d
  induction d with
  | zero =>
    intro i k hi hk
    obtain ⟨k, rfl⟩ : ∃ k', k = k' + 1 := ⟨k - 1, by omega⟩
    have e : i = r.length := by omega
    subst e
    obtain ⟨g1, g2⟩ := h.sums hm r.length (Nat.le_refl _)
    rw [List.take_length] at g1 g2
    rw [gluepotlaw23_StatsFall.l1, if_neg (by rw [gv_len]; omega), if_pos (by unfold sv; omega)]
    have : sv r l ≥ (r.length : Int) := by unfold sv; omega
    simp [this]
  | succ d ih =>
    intro i k hi hk
    obtain ⟨k, rfl⟩ : ∃ k', k = k' + 1 := ⟨k - 1, by omega⟩
    have hlt : i < r.length := by omega
    obtain ⟨n, h1, h2, h3, h4⟩ := h.at i hlt
    have hb := ps_bd (r := r) hm i
    have hb2 := gs_bd r i l.length l rfl hm.2
    have hl := hm.1
    have hw : wrap64 (ps r l i + gs r i l) = ps r l (i + 1) := by rw [ps]; exact wrap_id (by omega) (by omega)
    rw [gluepotlaw23_StatsFall.l1, if_pos (by rw [gv_len]; omega), if_pos (by omega), gv_rd _ _ _ hlt, if_neg (by omega), hw, wi i (by omega)]
    by_cases h0 : (i : Int) > 0
    · have hw2 : wrap64 ((i : Int) - 1) = ((i - 1 : Nat) : Int) := by unfold wrap64; omega
      have hf := h.falls (i - 1) (by omega)
      rw [show i - 1 + 1 = i by omega] at hf
      rw [if_pos h0, hw2, if_pos (by omega), if_pos (by rw [gv_len]; omega), gv_rd _ _ _ (by omega), if_neg (by omega)]
      exact ih (i + 1) k (by omega) (by omega)
    · rw [if_neg h0]
      exact ih (i + 1) k (by omega) (by omega)
end
theorem fall_end (l : List S35) (hf : Fine l) (hl : l.length ≤ 30) (hc : ∀ x ∈ l, x.f1 ≤ 1000000) (b least : Int) : ∃ K, ∀ k, K ≤ k → gluepotlaw23_StatsFall.l0 k l b least (l.length : Int) = some true := by
  obtain ⟨p, e, hk1, he⟩ := table_check l hf
  obtain ⟨p', e', hk2, he'⟩ := ref_check l hf
  by_cases hg : good ByteArray.empty l = true ∧ (dotGo 0 (l.map (·.f1)) (l.map pr1)).2 = true
  · have h0 := he.2 hg
    have h0' := he'.2 hg
    subst h0 h0'
    have hgc := Bpe.good_counts _ _ hg.1
    have hM : Mild l := ⟨hl, fun x hx => ⟨(hf.2 x hx).1, hgc x hx, hc x hx⟩⟩
    have key : ∃ r k0, Steps l least r ∧ r.length ≤ 10000 ∧ (∀ x ∈ r, x.f0.size ≤ 100 ∧ x.f1.size ≤ 100) ∧ ∀ k, k0 ≤ k → gluepotref16_Learn.f k l b least = some r := by
      have nil : Steps l least [] := fun o x p e => by simp at e
      rcases rlearn_f l hf with h | ⟨hok, h⟩
      · obtain ⟨k0, hk⟩ := h b least
        exact ⟨[], k0, nil, by simp, by simp, fun k h => hk k h⟩
      · rcases h b least with ⟨_, k0, hk⟩ | ⟨hl1, r, hr, k0, hk⟩
        · exact ⟨[], k0, nil, by simp, by simp, fun k h => hk k h⟩
        · have hlen := Lrn.len hl1 hr
          have hrm := hok.rem (o := [])
          rw [List.length_nil] at hlen
          refine ⟨r, k0, ?_, by omega, Lrn.sizes hok hr (by simp), fun k h => hk k h⟩
          have := lrn_every hr (fun o x p e => by simp at e)
          intro o x p e
          obtain ⟨n, g1, g2⟩ := this o x p e
          exact ⟨n, g1, g2, by omega⟩
    obtain ⟨r, k0, hs, hrl, hrs, hk⟩ := key
    refine ⟨k0 + 500000, fun k hk0 => ?_⟩
    obtain ⟨k, rfl⟩ : ∃ k', k = k' + 2 := ⟨k - 2, by omega⟩
    have ht := through_f l hM r hrl hrs (k + 1) (by omega)
    rw [gluepotlaw23_StatsFall.l0, if_neg (by omega), hk (k + 1) (by omega), Option.bind_some, stats_Gains.f, hk1 (k + 1) (by omega), Option.bind_some, if_pos rfl, ht, Option.bind_some, Option.bind_some,
      stats_Saved.f, hk1 (k + 1) (by omega), Option.bind_some, if_pos rfl, ht, Option.bind_some, Option.bind_some, hk2 (k + 1) (by omega), Option.bind_some, if_pos rfl, if_pos (by rw [gv_len]), gluepotlaw23_StatsFall.j2, if_neg (by simp)]
    exact fall_l1 hs hM hrl r.length 0 k (by omega) (by omega)
  · have h0 : ¬ e = 0 := fun h => hg (he.1 h)
    have h0' : ¬ e' = 0 := fun h => hg (he'.1 h)
    refine ⟨5000, fun k hk0 => ?_⟩
    obtain ⟨k, rfl⟩ : ∃ k', k = k' + 2 := ⟨k - 2, by omega⟩
    have hl0 : gluepotref16_Learn.f (k + 1) l b least = some [] := by
      rw [gluepotref16_Learn.f, hk2 (k + 1) (by omega), Option.bind_some, if_neg h0', gluepotref16_Learn.j0, if_pos rfl]
    rw [gluepotlaw23_StatsFall.l0, if_neg (by omega), hl0, Option.bind_some, stats_Gains.f, hk1 (k + 1) (by omega), Option.bind_some, if_neg h0, Option.bind_some,
      stats_Saved.f, hk1 (k + 1) (by omega), Option.bind_some, if_neg h0, Option.bind_some, hk2 (k + 1) (by omega), Option.bind_some, if_neg h0']
    simp
theorem StatsFall (l0 : List (Pr.S35)) (a1 : Int) (a2 : Int) (x0 : l0.length ≤ maxLen) (y0 : ∀ x ∈ l0, x.f0.size ≤ maxLen ∧ (Lit.int .i64 x.f1).wf = true) (w1 : (Lit.int .i64 a1).wf = true) (w2 : (Lit.int .i64 a2).wf = true) : ∃ k, Pr.gluepotlaw23_StatsFall.f k l0 a1 a2 = some true := by
  have hm0 : maxLen ≤ 9223372036854775807 := by decide
  obtain ⟨g, hg, hgf⟩ := great7 l0 30 (by omega)
  cases g with
  | true =>
    refine ⟨l0.length + 100, ?_⟩
    obtain ⟨K, hK⟩ : ∃ K, l0.length + 100 = K + 1 := ⟨l0.length + 99, rfl⟩
    rw [gluepotlaw23_StatsFall.f, awake_at (by omega), Option.bind_some, if_pos rfl, hg _ (by omega), Option.bind_some, if_pos rfl, hK, gluepotlaw23_StatsFall.j0, if_pos rfl]
  | false =>
    obtain ⟨hl, hsz⟩ := hgf rfl
    have hf : Fine l0 := ⟨by omega, fun x hx => ⟨hsz x hx, wf_i64 (y0 x hx).2⟩⟩
    obtain ⟨t, ht⟩ := positions l0 (by omega)
    by_cases hp : t > 200
    · refine ⟨l0.length + 100, ?_⟩
      obtain ⟨K, hK⟩ : ∃ K, l0.length + 100 = K + 1 := ⟨l0.length + 99, rfl⟩
      rw [gluepotlaw23_StatsFall.f, awake_at (by omega), Option.bind_some, if_pos rfl, hg _ (by omega), Option.bind_some, if_neg (by simp), ht _ (by omega), Option.bind_some, hK, gluepotlaw23_StatsFall.j0, if_pos (by simpa using hp)]
    · have loop : ∀ m i, i + m = l0.length → (∀ x ∈ l0.take i, x.f1 ≤ 1000000) → ∃ K, ∀ k, K ≤ k → gluepotlaw23_StatsFall.l0 k l0 a1 a2 (i : Int) = some true := by
        intro m
        induction m with
        | zero =>
          intro i hi hx
          have e : i = l0.length := by omega
          subst e
          rw [List.take_length] at hx
          exact fall_end l0 hf (by omega) hx a1 a2
        | succ m ih =>
          intro i hi hx
          have hlt : i < l0.length := by omega
          by_cases h1 : l0[i].f1 > 1000000
          · refine ⟨1, fun k hk => ?_⟩
            obtain ⟨k, rfl⟩ : ∃ k', k = k' + 1 := ⟨k - 1, by omega⟩
            rw [gluepotlaw23_StatsFall.l0, if_pos (by omega), if_pos (by omega), rd35 l0 i hlt, if_pos h1]
          · obtain ⟨K, hK⟩ := ih (i + 1) (by omega) (fun x hm => by
              rw [List.take_succ_eq_append_getElem hlt] at hm
              rcases List.mem_append.1 hm with hm | hm
              · exact hx x hm
              · rw [List.mem_singleton.1 hm]; omega)
            refine ⟨K + 1, fun k hk => ?_⟩
            obtain ⟨k, rfl⟩ : ∃ k', k = k' + 1 := ⟨k - 1, by omega⟩
            rw [gluepotlaw23_StatsFall.l0, if_pos (by omega), if_pos (by omega), rd35 l0 i hlt, if_neg h1, wi i (by omega)]
            exact hK k (by omega)
      obtain ⟨K, hK⟩ := loop l0.length 0 (by omega) (by simp)
      refine ⟨(K + l0.length + 100) + 1, ?_⟩
      rw [gluepotlaw23_StatsFall.f, awake_at (by omega), Option.bind_some, if_pos rfl, hg _ (by omega), Option.bind_some, if_neg (by simp), ht _ (by omega), Option.bind_some, gluepotlaw23_StatsFall.j0, if_neg (by simpa using hp)]
      exact hK _ (by omega)
end Go.Proofs.Ytbfjlfbahjmibaa.Pure
