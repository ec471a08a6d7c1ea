/- Plain facts: learning by counting anew, in both texts. -/
import Derived.Test.YtbfjlfbahjmibaaHBest
import Derived.Test.YtbfjlfbahjmibaaPr11
import Derived.Test.YtbfjlfbahjmibaaPr27
import Derived.Test.YtbfjlfbahjmibaaPr28
namespace Go.Proofs.Ytbfjlfbahjmibaa.Bpe
open Go.RowKit Go.Proofs.YtbfjlfbahjmibaaW.PrintWords Go.Proofs.Ytbfjlfbahjmibaa.Pr
set_option linter.unusedVariables false
set_option linter.unusedSimpArgs false
/-! ### Join and Texts -/
theorem join_same6 : ∀ (k : Nat) (w out : List ByteArray) (i : Int) (a b : ByteArray), naive_Join.l0 k w out i a b = gluepotref16_Join.l0 k w out i a b
  | 0, w, out, i, a, b => by rw [naive_Join.l0, gluepotref16_Join.l0]
  | k + 1, w, out, i, a, b => by
    have hw : wrap64 (wrap64 (i + 1) + 1) = wrap64 (i + 2) := by unfold wrap64; omega
    rw [naive_Join.l0, gluepotref16_Join.l0, hw]
    simp only [join_same6 k]
theorem join_at (w : List ByteArray) (a b : ByteArray) (hw : w.length ≤ 100000) (ha : a.size ≤ 1000000) (hb : b.size ≤ 1000000) : ∀ (m i k : Nat) (out : List ByteArray), w.length ≤ i + m → i ≤ w.length → out.length ≤ i → m + 1 ≤ k →
    gluepotref16_Join.l0 k w out (i : Int) a b = some (out ++ jn a b (w.drop i)) := by
  intro m
  induction m with
  | zero =>
    intro i k out hi hi2 ho hk
    obtain ⟨k, rfl⟩ : ∃ k', k = k' + 1 := ⟨k - 1, by omega⟩
    rw [gluepotref16_Join.l0, if_neg (by omega), List.drop_of_length_le (by omega), jn_nil, List.append_nil]
  | succ m ih =>
    intro i k out hi hi2 ho hk
    obtain ⟨k, rfl⟩ : ∃ k', k = k' + 1 := ⟨k - 1, by omega⟩
    by_cases hlt : i < w.length
    · have hw2 : wrap64 ((i : Int) + 2) = ((i + 2 : Nat) : Int) := by unfold wrap64; omega
      have c4 : out.length < 8796093022208 := by omega
      have hd := List.drop_eq_getElem_cons hlt
      rw [gluepotref16_Join.l0, wi i (by omega), hw2, if_pos (by omega), rdB w i hlt]
      have rest : ∀ x, x = w[i] → gluepotref16_Join.l0 k w (out ++ [x]) ((i + 1 : Nat) : Int) a b = some (out ++ x :: jn a b (w.drop (i + 1))) := fun x hx => by
        rw [ih (i + 1) k (out ++ [x]) (by omega) (by omega) (by simp; omega) (by omega), List.append_assoc]
        rfl
      by_cases h1 : i + 1 < w.length
      · have hd2 := List.drop_eq_getElem_cons h1
        rw [if_pos (by omega), if_pos (by omega), rdB w (i + 1) h1, hd, hd2, jn_two]
        by_cases h2 : w[i] = a
        · rw [if_pos (list_inj.2 h2), if_pos (by omega)]
          by_cases h3 : w[i + 1] = b
          · rw [if_pos (list_inj.2 h3), if_pos (by omega), if_pos c4, if_pos ⟨h2, h3⟩, ih (i + 2) k (out ++ [a ++ b]) (by omega) (by omega) (by simp; omega) (by omega), List.append_assoc]
            rfl
          · rw [if_neg (fun h => h3 (list_inj.1 h)), if_pos c4, if_neg (fun h => h3 h.2), rest _ rfl, hd2]
        · rw [if_neg (fun h => h2 (list_inj.1 h)), if_pos c4, if_neg (fun h => h2 h.1), rest _ rfl, hd2]
      · have hd2 : w.drop (i + 1) = [] := List.drop_of_length_le (by omega)
        rw [if_neg (by omega), if_pos (by omega), if_pos c4, rest _ rfl, hd, hd2, jn_one, jn_nil]
    · rw [gluepotref16_Join.l0, if_neg (by omega), List.drop_of_length_le (by omega), jn_nil, List.append_nil]
theorem rjoin_f {w : List ByteArray} {a b : ByteArray} {k : Nat} (hw : w.length ≤ 100000) (ha : a.size ≤ 1000000) (hb : b.size ≤ 1000000) (hk : w.length + 1 ≤ k) : gluepotref16_Join.f k w a b = some (jn a b w) := by
  have := join_at w a b hw ha hb w.length 0 k [] (by omega) (by omega) (by simp) hk
  simpa [gluepotref16_Join.f] using this
theorem njoin_f {w : List ByteArray} {a b : ByteArray} {k : Nat} (hw : w.length ≤ 100000) (ha : a.size ≤ 1000000) (hb : b.size ≤ 1000000) (hk : w.length + 1 ≤ k) : naive_Join.f k w a b = some (jn a b w) := by
  rw [naive_Join.f, join_same6]
  exact rjoin_f hw ha hb hk
theorem rtexts_f (s : ByteArray) (hs : s.size ≤ 100000) (k : Nat) (hk : s.size + 1 ≤ k) : gluepotref16_Texts.f k s = some (base (tx s)) := by
  have hl : s.data.toList.length = s.size := by simp
  have loop : ∀ m i k, i + m = s.size → m + 1 ≤ k → gluepotref16_Texts.l0 k s ((s.data.toList.take i).map mkT) (i : Int) = some (s.data.toList.map mkT) := by
    intro m
    induction m with
    | zero =>
      intro i k hi hk
      obtain ⟨k, rfl⟩ : ∃ k', k = k' + 1 := ⟨k - 1, by omega⟩
      rw [gluepotref16_Texts.l0, if_neg (by omega), List.take_of_length_le (by omega)]
    | succ m ih =>
      intro i k hi hk
      obtain ⟨k, rfl⟩ : ∃ k', k = k' + 1 := ⟨k - 1, by omega⟩
      have hlt : i < s.data.toList.length := by omega
      have hx : s.extract i (i + 1) = mkT s.data.toList[i] := by
        apply ByteArray.ext
        apply Array.toList_inj.1
        rw [Lib.extract_data, show i + 1 - i = 1 by omega, List.drop_eq_getElem_cons hlt]
        rfl
      rw [gluepotref16_Texts.l0, wi i (by omega), if_pos (by omega), if_pos (by omega), if_pos (by omega), if_pos (by omega), if_pos (by simp; omega), Int.toNat_natCast, Int.toNat_natCast, hx]
      have := ih (i + 1) k (by omega) (by omega)
      rw [List.take_succ_eq_append_getElem hlt, List.map_append] at this
      exact this
  have := loop s.size 0 k (by omega) hk
  simpa [gluepotref16_Texts.f, base, tx] using this
/-! ### the words behind merges -/
/-- The words of texts behind merges. -/
def Ws (ts : List (List UInt8)) (o : List S45) : List (List ByteArray) := ts.map fun t => seg o (base t)
theorem Ws_snoc (ts : List (List UInt8)) (o : List S45) (x : S45) : Ws ts (o ++ [x]) = (Ws ts o).map (jn x.f0 x.f1) := by
  simp only [Ws, List.map_map]
  apply List.map_congr_left
  intro t _
  exact seg_snoc o x (base t)
theorem rem_jn_le (a b : ByteArray) : ∀ ws : List (List ByteArray), rem (ws.map (jn a b)) ≤ rem ws
  | [] => Nat.le_refl _
  | w :: ws => by
    have := rem_jn_le a b ws
    have := jn_len_le (a := a) (b := b) w
    rw [List.map_cons, rem, rem]
    omega
theorem rem_jn_lt (a b : ByteArray) : ∀ (ws : List (List ByteArray)) (cs : List Int), 1 ≤ wc a b ws cs → rem (ws.map (jn a b)) + 1 ≤ rem ws
  | [], _, h => by simp [wc] at h
  | _ :: _, [], h => by simp [wc] at h
  | w :: ws, c :: cs, h => by
    rw [List.map_cons, rem, rem]
    rw [wc] at h
    by_cases h1 : 1 ≤ wc a b ws cs
    · have := rem_jn_lt a b ws cs h1
      have := jn_len_le (a := a) (b := b) w
      omega
    · have h2 : 1 ≤ pc a b w := by
        rcases Nat.eq_zero_or_pos (pc a b w) with hp | hp
        · rw [hp] at h
          split at h <;> simp at h <;> omega
        · exact hp
      have := jn_len_lt w h2
      have := rem_jn_le a b ws
      omega
theorem tot_jn (a b : ByteArray) : ∀ (ws : List (List ByteArray)) (cs : List Int), tot (ws.map (jn a b)) cs ≤ tot ws cs
  | [], _ => by simp [tot]
  | _ :: _, [] => by simp [tot]
  | w :: ws, c :: cs => by
    have h1 := tot_jn a b ws cs
    have h2 := jn_len_le (a := a) (b := b) w
    rw [List.map_cons, tot, tot]
    split
    · omega
    · have : c * (((jn a b w).length - 1 : Nat) : Int) ≤ c * ((w.length - 1 : Nat) : Int) := Int.mul_le_mul_of_nonneg_left (by omega) (by omega)
      omega
theorem mem_size {w : List ByteArray} {x : ByteArray} (h : x ∈ w) : x.size ≤ (flat w).length := by
  obtain ⟨A, C, rfl⟩ := List.append_of_mem h
  rw [flat_append, flat_cons, List.length_append, List.length_append, tx_size]
  omega
/-- What is known of a table that is right, and of what it is behind merges. -/
structure Okay (ts : List (List UInt8)) (cs : List Int) : Prop where
  many : ts.length ≤ 60
  len : ∀ t ∈ ts, t.length ≤ 100
  same : cs.length = ts.length
  cnt : ∀ c ∈ cs, 1 ≤ c ∧ c ≤ 9223372036854775807
  tot : tot (Ws ts []) cs ≤ 9223372036854775807
theorem rem_le : ∀ (ws : List (List ByteArray)), (∀ w ∈ ws, w.length ≤ 100) → rem ws ≤ 103 * ws.length
  | [], _ => by simp [rem]
  | w :: ws, h => by
    have := rem_le ws (fun x hx => h x (List.mem_cons_of_mem _ hx))
    have := h w (by simp)
    rw [rem, List.length_cons]
    omega
section
variable {ts : List (List UInt8)} {cs : List Int} {o : List S45}
theorem Ws_len : (Ws ts o).length = ts.length := by simp [Ws]
theorem Okay.lens (h : Okay ts cs) : ∀ w ∈ Ws ts o, w.length ≤ 100 := fun w hw => by
  obtain ⟨t, ht, rfl⟩ := List.mem_map.1 hw
  have := seg_len o (base t)
  have := h.len t ht
  simp [base] at *
  omega
theorem Okay.rem (h : Okay ts cs) : rem (Ws ts o) ≤ 6180 := by
  have := rem_le (Ws ts o) h.lens
  have := h.many
  rw [Ws_len] at *
  omega
theorem Okay.sizes (h : Okay ts cs) : ∀ w ∈ Ws ts o, ∀ s ∈ w, s.size ≤ 100 := fun w hw s hs => by
  obtain ⟨t, ht, rfl⟩ := List.mem_map.1 hw
  have h1 := mem_size hs
  rw [flat_seg, flat_base] at h1
  exact Nat.le_trans h1 (h.len t ht)
theorem Okay.totO (h : Okay ts cs) : Bpe.tot (Ws ts o) cs ≤ 9223372036854775807 := by
  have key : ∀ n, ∀ o : List S45, o.length = n → Bpe.tot (Ws ts o) cs ≤ Bpe.tot (Ws ts []) cs := by
    intro n
    induction n with
    | zero => intro o ho; rw [List.length_eq_zero_iff.1 ho]; exact Int.le_refl _
    | succ n ih =>
      intro o ho
      obtain ⟨p, x, rfl⟩ : ∃ p x, o = p ++ [x] := ⟨o.dropLast, o.getLast (by intro e; rw [e] at ho; simp at ho), (List.dropLast_concat_getLast _).symm⟩
      rw [Ws_snoc]
      exact Int.le_trans (tot_jn _ _ _ _) (ih p (by simp at ho; exact ho))
  exact Int.le_trans (key _ o rfl) h.tot
theorem Okay.guard (h : Okay ts cs) (o : List S45) : guardB (Ws ts o) cs := by
  have h1 := h.many
  have h2 := h.rem (o := o)
  exact ⟨by rw [Ws_len]; omega, by omega, fun w hw s hs => by have := h.sizes w hw s hs; omega, fun c hc => (h.cnt c hc).2, h.totO⟩
theorem Okay.best (h : Okay ts cs) (o : List S45) : ∃ L R n, IsBest (Ws ts o) cs L R n ∧ gluepotref16_Best.f (Ws ts o) cs = some (L, R, n) ∧ naive_Best.f (Ws ts o) cs = some (L, R, n) := by
  have hg := h.guard o
  exact ⟨_, _, _, bestS_is (ws := Ws ts o) (cs := cs) hg.2.2.1, by rw [gluepotref16_Best.f, if_pos hg], by rw [naive_Best.f, if_pos hg]⟩
theorem IsBest.sizes {L R : ByteArray} {n : Int} (h : Okay ts cs) (hb : IsBest (Ws ts o) cs L R n) : L.size ≤ 100 ∧ R.size ≤ 100 := by
  rcases hb with ⟨rfl, rfl, _⟩ | ⟨h1, h2, _⟩
  · exact ⟨by decide, by decide⟩
  · obtain ⟨i, w, c, h3, _, _, h4⟩ := wc_pos (a := L) (b := R) (ws := Ws ts o) (cs := cs) (by omega)
    obtain ⟨j, h5, h6⟩ := pc_at h4
    have hw := List.mem_of_getElem? h3
    exact ⟨h.sizes w hw L (List.mem_of_getElem? h5), h.sizes w hw R (List.mem_of_getElem? h6)⟩
theorem IsBest.wc {L R : ByteArray} {n : Int} {ws cs} (hb : IsBest ws cs L R n) (h : 1 ≤ n) : n = Bpe.wc L R ws cs := by
  rcases hb with ⟨_, _, h1, _⟩ | ⟨_, h2, _⟩
  · omega
  · exact h2
end
/-- What is learnt behind merges that were learnt. -/
inductive Lrn (ts : List (List UInt8)) (cs : List Int) (budget least : Int) : List S45 → List S45 → Prop
  | full {o} : budget ≤ (o.length : Int) → Lrn ts cs budget least o o
  | stop {o L R n} : (o.length : Int) < budget → IsBest (Ws ts o) cs L R n → n < least → Lrn ts cs budget least o o
  | step {o L R n r} : (o.length : Int) < budget → IsBest (Ws ts o) cs L R n → least ≤ n → Lrn ts cs budget least (o ++ [⟨L, R⟩]) r → Lrn ts cs budget least o r
section
variable {ts : List (List UInt8)} {cs : List Int} {o : List S45}
theorem Lrn.next {budget least : Int} {L R : ByteArray} {n : Int} (hl : 1 ≤ least) (hb : IsBest (Ws ts o) cs L R n) (hn : least ≤ n) : Bpe.rem (Ws ts (o ++ [⟨L, R⟩])) + 1 ≤ Bpe.rem (Ws ts o) := by
  rw [Ws_snoc]
  exact rem_jn_lt L R _ cs (by have := hb.wc (by omega); omega)
theorem Lrn.all (h : Okay ts cs) (budget : Int) {least : Int} (hl : 1 ≤ least) : ∀ N, ∀ o, Bpe.rem (Ws ts o) ≤ N → ∃ r, Lrn ts cs budget least o r := by
  intro N
  induction N with
  | zero =>
    intro o hN
    obtain ⟨L, R, n, hb, _⟩ := h.best o
    by_cases h1 : budget ≤ (o.length : Int)
    · exact ⟨o, .full h1⟩
    · by_cases h2 : n < least
      · exact ⟨o, .stop (by omega) hb h2⟩
      · have := Lrn.next (budget := budget) hl hb (by omega)
        omega
  | succ N ih =>
    intro o hN
    obtain ⟨L, R, n, hb, _⟩ := h.best o
    by_cases h1 : budget ≤ (o.length : Int)
    · exact ⟨o, .full h1⟩
    · by_cases h2 : n < least
      · exact ⟨o, .stop (by omega) hb h2⟩
      · have := Lrn.next (budget := budget) hl hb (by omega)
        obtain ⟨r, hr⟩ := ih (o ++ [⟨L, R⟩]) (by omega)
        exact ⟨r, .step (by omega) hb (by omega) hr⟩
theorem Lrn.ext {budget least : Int} {r : List S45} (h : Lrn ts cs budget least o r) : ∃ p, r = o ++ p := by
  induction h with
  | full _ => exact ⟨[], by simp⟩
  | stop _ _ _ => exact ⟨[], by simp⟩
  | @step o L R n r _ _ _ _ ih =>
    obtain ⟨p, hp⟩ := ih
    exact ⟨⟨L, R⟩ :: p, by rw [hp]; simp⟩
theorem Lrn.budget {budget least : Int} {r : List S45} (h : Lrn ts cs budget least o r) (ho : (o.length : Int) ≤ budget) : (r.length : Int) ≤ budget := by
  induction h with
  | full _ => exact ho
  | stop _ _ _ => exact ho
  | step h1 _ _ _ ih => exact ih (by simp; omega)
/-- With a budget as great, and a least count as small, what is learnt begins alike. -/
theorem Lrn.begins {b1 b2 l1 l2 : Int} (hb : b1 ≤ b2) (hl : l2 ≤ l1) {r1 r2 : List S45} (h1 : Lrn ts cs b1 l1 o r1) (h2 : Lrn ts cs b2 l2 o r2) : ∃ p, r2 = r1 ++ p := by
  induction h1 with
  | full _ => exact h2.ext
  | stop _ _ _ => exact h2.ext
  | step g1 g2 g3 _ ih =>
    cases h2 with
    | full k1 => omega
    | stop k1 k2 k3 =>
      have := (g2.same k2).2.2
      omega
    | step k1 k2 k3 k4 =>
      obtain ⟨rfl, rfl, rfl⟩ := g2.same k2
      exact ih k4
theorem Lrn.one {budget least : Int} {r1 r2 : List S45} (h1 : Lrn ts cs budget least o r1) (h2 : Lrn ts cs budget least o r2) : r1 = r2 := by
  obtain ⟨p, hp⟩ := h1.begins (Int.le_refl _) (Int.le_refl _) h2
  obtain ⟨q, hq⟩ := h2.begins (Int.le_refl _) (Int.le_refl _) h1
  have e : p.length = 0 := by
    have h3 := congrArg List.length hp
    have h4 := congrArg List.length hq
    rw [List.length_append] at h3 h4
    omega
  rw [hp, List.length_eq_zero_iff.1 e, List.append_nil]
/-- Each merge was there when it was learnt. -/
def Chain (ts : List (List UInt8)) (r : List S45) : Prop := ∀ o x p, r = o ++ x :: p → ∃ t ∈ ts, 1 ≤ pc x.f0 x.f1 (seg o (base t))
theorem Chain.snoc {x : S45} (h : Chain ts o) (hx : ∃ t ∈ ts, 1 ≤ pc x.f0 x.f1 (seg o (base t))) : Chain ts (o ++ [x]) := fun o' x' p e => by
  rcases List.append_eq_append_iff.1 e with ⟨a, h1, h2⟩ | ⟨a, h1, h2⟩
  · cases a with
    | nil =>
      simp at h1 h2
      obtain ⟨rfl, _⟩ := h2
      rw [h1]
      exact hx
    | cons y a =>
      rw [List.cons_append] at h2
      have := congrArg List.length h2
      simp at this
  · cases a with
    | nil =>
      simp at h1 h2
      obtain ⟨rfl, _⟩ := h2
      rw [← h1]
      exact hx
    | cons y a =>
      rw [List.cons_append] at h2
      injection h2 with h2 h3
      subst h2
      exact h o' x' a h1
theorem IsBest.there {L R : ByteArray} {n : Int} (hb : IsBest (Ws ts o) cs L R n) (h1 : 1 ≤ n) : ∃ t ∈ ts, 1 ≤ pc L R (seg o (base t)) := by
  have := hb.wc h1
  obtain ⟨i, w, c, h3, _, _, h4⟩ := wc_pos (a := L) (b := R) (ws := Ws ts o) (cs := cs) (by omega)
  obtain ⟨t, ht, rfl⟩ := List.mem_map.1 (List.mem_of_getElem? h3)
  exact ⟨t, ht, h4⟩
theorem Lrn.chain {budget least : Int} {r : List S45} (hl : 1 ≤ least) (h : Lrn ts cs budget least o r) (hc : Chain ts o) : Chain ts r := by
  induction h with
  | full _ => exact hc
  | stop _ _ _ => exact hc
  | step _ h2 h3 _ ih => exact ih (hc.snoc (h2.there (by omega)))
end
end Go.Proofs.Ytbfjlfbahjmibaa.Bpe
