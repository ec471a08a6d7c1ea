/- Mp, Bp, HAhead, HRef, HBest in one text (wip/mtext.py). -/
import Derived.WideKeyEntry
import Derived.Maps.RangeWalk
import Derived.Maps.OwnSet
import Derived.DeepKeys5
import Derived.Deep.Draws
import Derived.Test.YtbfjlfbahjmibaaHTexts
import Derived.Test.YtbfjlfbahjmibaaPr0
import Derived.Deep.QuietTactic
import Derived.BigQuiet
import Derived.BigRegion
namespace Go.Proofs.Ytbfjlfbahjmibaa.Mp
open Go Go.RowKit Go.ChangeMaps Go.MapKept
open Go.Maps (Keyed)
set_option linter.unusedVariables false
set_option linter.unusedSimpArgs false
section
variable {κ β : Type} [DecidableEq κ]
/-- The value at a key. -/
def get : List (κ × β) → κ → Option β
  | [], _ => none
  | (x, v) :: m, a => if x = a then some v else get m a
def put : List (κ × β) → κ → β → List (κ × β)
  | [], a, u => [(a, u)]
  | (x, v) :: m, a, u => if x = a then (a, u) :: m else (x, v) :: put m a u
def del (m : List (κ × β)) (a : κ) : List (κ × β) := m.filter fun p => decide (p.1 ≠ a)
theorem get_put (m : List (κ × β)) (a c : κ) (u : β) : get (put m a u) c = if a = c then some u else get m c := by
  induction m with
  | nil => rfl
  | cons p m ih =>
    obtain ⟨x, v⟩ := p
    rw [put]
    by_cases h : x = a
    · subst h
      rw [if_pos rfl, get, get]
      by_cases h2 : x = c
      · rw [if_pos h2, if_pos h2]
      · rw [if_neg h2, if_neg h2, if_neg h2]
    · rw [if_neg h, get, get, ih]
      by_cases h2 : x = c
      · subst h2
        rw [if_pos rfl, if_neg (fun e => h e.symm), if_pos rfl]
      · rw [if_neg h2, if_neg h2]
theorem get_del (m : List (κ × β)) (a c : κ) : get (del m a) c = if a = c then none else get m c := by
  induction m with
  | nil => simp [del, get]
  | cons p m ih =>
    obtain ⟨x, v⟩ := p
    unfold del at ih ⊢
    rw [List.filter_cons]
    by_cases h : x = a
    · subst h
      rw [if_neg (by simp), ih, get]
      by_cases h2 : x = c
      · rw [if_pos h2, if_pos h2]
      · rw [if_neg h2, if_neg h2, if_neg h2]
    · rw [if_pos (by simpa using h), get, get, ih]
      by_cases h2 : x = c
      · subst h2
        rw [if_pos rfl, if_neg (fun e => h e.symm), if_pos rfl]
      · rw [if_neg h2, if_neg h2]
theorem get_none {m : List (κ × β)} {a : κ} : get m a = none ↔ ∀ p ∈ m, p.1 ≠ a := by
  induction m with
  | nil => simp [get]
  | cons p m ih =>
    obtain ⟨x, v⟩ := p
    rw [get]
    by_cases h : x = a
    · simp [h]
    · simp [h, ih]
theorem get_mem {m : List (κ × β)} {a : κ} {v : β} (h : get m a = some v) : (a, v) ∈ m := by
  induction m with
  | nil => simp [get] at h
  | cons p m ih =>
    obtain ⟨x, u⟩ := p
    rw [get] at h
    by_cases e : x = a
    · rw [if_pos e] at h
      cases h
      simp [e]
    · rw [if_neg e] at h
      exact List.mem_cons_of_mem _ (ih h)
theorem mem_get {m : List (κ × β)} (hn : (m.map Prod.fst).Nodup) {a : κ} {v : β} (h : (a, v) ∈ m) : get m a = some v := by
  induction m with
  | nil => simp at h
  | cons p m ih =>
    obtain ⟨x, u⟩ := p
    rw [List.map_cons, List.nodup_cons] at hn
    rw [get]
    rcases List.mem_cons.1 h with h | h
    · cases h
      rw [if_pos rfl]
    · rw [if_neg (fun e => hn.1 (by subst e; exact List.mem_map.2 ⟨_, h, rfl⟩)), ih hn.2 h]
theorem put_keys {m : List (κ × β)} {a : κ} {u : β} : ∀ p ∈ put m a u, p = (a, u) ∨ p ∈ m := by
  induction m with
  | nil => simp [put]
  | cons q m ih =>
    obtain ⟨x, v⟩ := q
    rw [put]
    by_cases h : x = a
    · rw [if_pos h]
      intro p hp
      rcases List.mem_cons.1 hp with hp | hp
      · exact .inl hp
      · exact .inr (List.mem_cons_of_mem _ hp)
    · rw [if_neg h]
      intro p hp
      rcases List.mem_cons.1 hp with hp | hp
      · exact .inr (by simp [hp])
      · rcases ih p hp with h1 | h1
        · exact .inl h1
        · exact .inr (List.mem_cons_of_mem _ h1)
theorem put_new {m : List (κ × β)} {a : κ} {u : β} (h : get m a = none) : put m a u = m ++ [(a, u)] := by
  induction m with
  | nil => rfl
  | cons q m ih =>
    obtain ⟨x, v⟩ := q
    rw [get] at h
    by_cases e : x = a
    · rw [if_pos e] at h
      cases h
    · rw [if_neg e] at h
      rw [put, if_neg e, ih h]
      rfl
theorem put_len_le {m : List (κ × β)} {a : κ} {u : β} : (put m a u).length ≤ m.length + 1 := by
  induction m with
  | nil => simp [put]
  | cons q m ih =>
    obtain ⟨x, v⟩ := q
    rw [put]
    split <;> simp at * <;> omega
end
/-- The kinds of a map: its type's numbers, how its keys and values lie in memory, and which keys it takes. -/
structure Kv (P : Program) (κ β : Type) where
  t : TypeId
  k : TypeId
  e : TypeId
  kv : κ → Value
  vv : β → Value
  ok : κ → Prop
  z : β
  law : Keyed P k
  ht : P.underlying t = some (.map k e)
  inj : ∀ a c, kv a = kv c → a = c
  key : ∀ a, ok a → ∃ l, keyOf P k (kv a) = some l
  hz : ∀ w : World, (zeroValue e).run P w = .ok (vv z) w
section
variable {P : Program} {κ β : Type} {T : Kv P κ β} {w w' : World} {b r : Nat} {m todo : List (κ × β)}
/-- Entries and the list that they are. -/
structure Fits (T : Kv P κ β) (es : Array MapEntry) (clock : Nat) (m : List (κ × β)) : Prop where
  st : Stamped es clock
  size : es.size ≤ maxLen
  is : es.toList.map (fun e => (e.key, e.val)) = m.map (fun p => (T.kv p.1, T.vv p.2))
  ok : ∀ p ∈ m, T.ok p.1
theorem Fits.length {es clock} (F : Fits T es clock m) : es.size = m.length := by simpa using congrArg List.length F.is
theorem Fits.at {es clock} (F : Fits T es clock m) {j : Nat} {p : κ × β} (h : m[j]? = some p) : ∃ e, es[j]? = some e ∧ e.key = T.kv p.1 ∧ e.val = T.vv p.2 := by
  have := congrArg (fun l => l[j]?) F.is
  simp only [List.getElem?_map, h, Option.map_some] at this
  obtain ⟨e, he, h1⟩ := Option.map_eq_some_iff.1 this
  exact ⟨e, by simpa using he, by simpa using congrArg Prod.fst h1, by simpa using congrArg Prod.snd h1⟩
theorem Fits.from {es clock} (F : Fits T es clock m) {j : Nat} {e : MapEntry} (h : es[j]? = some e) : ∃ p, m[j]? = some p ∧ e.key = T.kv p.1 ∧ e.val = T.vv p.2 := by
  have h' : es.toList[j]? = some e := by simpa using h
  have := congrArg (fun l => l[j]?) F.is
  simp only [List.getElem?_map, h', Option.map_some] at this
  obtain ⟨p, hp, h1⟩ := Option.map_eq_some_iff.1 this.symm
  exact ⟨p, hp, by simpa using (congrArg Prod.fst h1).symm, by simpa using (congrArg Prod.snd h1).symm⟩
theorem Fits.nodup {es clock} (F : Fits T es clock m) : (m.map Prod.fst).Nodup := by
  have h := ((stamped_iff es clock).1 F.st).2.2
  have h1 : (es.toList.map (fun e => (e.key, e.val))).Pairwise (fun p q => p.1 ≠ q.1) := by
    rw [List.pairwise_map]; exact h
  rw [F.is, List.pairwise_map] at h1
  rw [List.Nodup, List.pairwise_map]
  exact h1.imp fun {a c} hne e => hne (by simp [e])
theorem Fits.keys {es clock} (F : Fits T es clock m) : ∀ e ∈ es.toList, ∃ l, keyOf P T.k e.key = some l := by
  intro e he
  obtain ⟨j, hj⟩ := List.getElem?_of_mem he
  obtain ⟨p, hp, h1, _⟩ := F.from (by simpa using hj)
  rw [h1]
  exact T.key _ (F.ok _ (List.mem_of_getElem? hp))
/-- Where a key is. -/
theorem Fits.find [DecidableEq κ] {es clock} (F : Fits T es clock m) (w : World) {a : κ} (ha : T.ok a) :
    ((Instr.findKey T.k (T.kv a) es.toList).run P w = .ok none w ∧ (∀ e ∈ es.toList, e.key ≠ T.kv a) ∧ get m a = none) ∨
    ∃ j e v, (Instr.findKey T.k (T.kv a) es.toList).run P w = .ok (some (j, e.val)) w ∧ es[j]? = some e ∧ e.key = T.kv a ∧ e.val = T.vv v ∧ m[j]? = some (a, v) ∧ get m a = some v := by
  obtain ⟨l, hl⟩ := T.key a ha
  rcases T.law.find w hl es.toList F.keys with ⟨h1, h2⟩ | ⟨j, e, h1, h2, h3⟩
  · refine .inl ⟨h1, h2, get_none.2 fun p hp he => ?_⟩
    obtain ⟨j, hj⟩ := List.getElem?_of_mem hp
    obtain ⟨e, g1, g2, _⟩ := F.at hj
    exact h2 e (List.mem_of_getElem? (by simpa using g1)) (by rw [g2, he])
  · obtain ⟨⟨x, v⟩, g1, g2, g3⟩ := F.from (by simpa using h2)
    have hx : x = a := T.inj _ _ (by rw [← h3]; exact g2.symm)
    subst hx
    exact .inr ⟨j, e, v, h1, by simpa using h2, h3, g3, g1, mem_get F.nodup (List.mem_of_getElem? g1)⟩
/-- Block b is a map that holds m. -/
def mp (T : Kv P κ β) (w : World) (b : Nat) (m : List (κ × β)) : Prop := ∃ es clock, w.heap[b]? = some (.map es clock) ∧ Fits T es clock m
theorem mp_made (w : World) : mp T (w.alloc (.map #[] 0)) w.heap.size [] := ⟨#[], 0, (MapKept.heap_alloc w _).1, ⟨stamped_empty 0, by simp, rfl, by simp⟩⟩
theorem mp.lt (h : mp T w b m) : b < w.heap.size := by
  obtain ⟨es, clock, hb, _⟩ := h
  exact (Array.getElem?_eq_some_iff.1 hb).1
theorem mp.same (h : mp T w b m) (he : w'.heap[b]? = w.heap[b]?) : mp T w' b m := by
  obtain ⟨es, clock, hb, F⟩ := h
  exact ⟨es, clock, he.trans hb, F⟩
theorem mp.alloc (h : mp T w b m) (o : Obj) : mp T (w.alloc o) b m := h.same ((MapKept.heap_alloc w o).2 b h.lt)
theorem mp.drew (h : mp T w b m) : mp T w.drew b m := h.same rfl
theorem mp.drewN (h : mp T w b m) (n : Nat) : mp T (w.drewN n) b m := h.same rfl
theorem mp.nodup (h : mp T w b m) : (m.map Prod.fst).Nodup := by
  obtain ⟨es, clock, hb, F⟩ := h
  exact F.nodup
theorem mp.length (h : mp T w b m) : m.length ≤ maxLen := by
  obtain ⟨es, clock, hb, F⟩ := h
  have := F.length
  have := F.size
  omega
theorem mp.ok (h : mp T w b m) : ∀ p ∈ m, T.ok p.1 := by
  obtain ⟨es, clock, hb, F⟩ := h
  exact F.ok
theorem mp.set (h : mp T w b m) {a : Addr} (ha : b ≠ a.block) (u : Value) : mp T (w.setCell a u) b m := h.same (RowKit.Below.heap_setCell _ _ _ _ ha)
theorem mp.grown {row : Option Nat} (h : mp T w b m) (hg : w.grownBy w' row) (hne : some b ≠ row) : mp T w' b m := h.same (hg.block b h.lt hne)
/-- 'm[k]'. -/
theorem mp.look [DecidableEq κ] (h : mp T w b m) {a : κ} (ha : T.ok a) : (Instr.lookup T.t (.map (some b)) (T.kv a) false).run P w = .ok (T.vv ((get m a).getD T.z)) w := by
  obtain ⟨es, clock, hb, F⟩ := h
  obtain ⟨l, hl⟩ := T.key a ha
  rcases F.find w ha with ⟨h1, _, h3⟩ | ⟨j, e, v, h1, h2, h3, h4, _, h6⟩
  · rw [h3]
    simp [Instr.lookup, run_underlying T.ht, MapKept.run_getObj_map hb, T.law.check w es.isEmpty hl, h1, T.hz, Result.andThen]
  · rw [h6]
    simp [Instr.lookup, run_underlying T.ht, MapKept.run_getObj_map hb, T.law.check w es.isEmpty hl, h1, h4, Result.andThen]
/-- 'v, ok := m[k]'. -/
theorem mp.lookOk [DecidableEq κ] (h : mp T w b m) {a : κ} (ha : T.ok a) : (Instr.lookup T.t (.map (some b)) (T.kv a) true).run P w = .ok (.tuple #[T.vv ((get m a).getD T.z), .bool (get m a).isSome]) w := by
  obtain ⟨es, clock, hb, F⟩ := h
  obtain ⟨l, hl⟩ := T.key a ha
  rcases F.find w ha with ⟨h1, _, h3⟩ | ⟨j, e, v, h1, h2, h3, h4, _, h6⟩
  · rw [h3]
    simp [Instr.lookup, run_underlying T.ht, MapKept.run_getObj_map hb, T.law.check w es.isEmpty hl, h1, T.hz, Result.andThen]
  · rw [h6]
    simp [Instr.lookup, run_underlying T.ht, MapKept.run_getObj_map hb, T.law.check w es.isEmpty hl, h1, h4, Result.andThen]
/-- 'len(m)'. -/
theorem mp.len (h : mp T w b m) (ty : TypeId) : (Builtin.len_ #[T.t] ty #[.map (some b)]).run P w = .ok (.int .i64 m.length) w := by
  obtain ⟨es, clock, hb, F⟩ := h
  have := F.length
  simp [Builtin.len_, run_underlying T.ht, MapKept.run_getObj_map hb, goInt, Result.andThen, this]
theorem put_is [DecidableEq κ] {f : κ × β → Value × Value} (hf : ∀ x y u v, (f (x, u)).1 = (f (y, v)).1 → x = y) {a : κ} {v u : β} : ∀ {m : List (κ × β)} {j : Nat}, (m.map Prod.fst).Nodup → m[j]? = some (a, v) → (put m a u).map f = (m.map f).set j (f (a, u))
  | [], _, _, h => by simp at h
  | (x, y) :: m, 0, _, h => by
    simp at h
    rw [put, if_pos h.1]
    rfl
  | (x, y) :: m, j + 1, hn, h => by
    simp at h
    rw [List.map_cons, List.nodup_cons] at hn
    have hm : (a, v) ∈ m := List.mem_of_getElem? h
    rw [put, if_neg (fun e => hn.1 (by subst e; exact List.mem_map.2 ⟨_, hm, rfl⟩)), List.map_cons, List.map_cons, put_is hf hn.2 h]
    rfl
theorem put_ok [DecidableEq κ] (hm : ∀ p ∈ m, T.ok p.1) {a : κ} (ha : T.ok a) (u : β) : ∀ p ∈ put m a u, T.ok p.1 := fun p hp => by
  rcases put_keys p hp with rfl | h
  · exact ha
  · exact hm p h
theorem Fits.new [DecidableEq κ] {es : Array MapEntry} {clock : Nat} (F : Fits T es clock m) (hsz : m.length < maxLen) {a : κ} (ha : T.ok a) (hn : ∀ e ∈ es.toList, e.key ≠ T.kv a) (hg : get m a = none) (u : β) : Fits T (es.push ⟨T.kv a, T.vv u, clock⟩) (clock + 1) (put m a u) := by
  refine ⟨stamped_push F.st hn, by have := F.length; simp; omega, ?_, put_ok F.ok ha u⟩
  rw [put_new hg]
  simp [F.is]
theorem Fits.over [DecidableEq κ] {es : Array MapEntry} {clock : Nat} (F : Fits T es clock m) {a : κ} {j : Nat} {e : MapEntry} {v : β} (ha : T.ok a) (hj : es[j]? = some e) (hk : e.key = T.kv a) (hm : m[j]? = some (a, v)) (u : β) :
    Fits T (es.modify j (fun e' => { e' with key := T.kv a, val := T.vv u })) clock (put m a u) := by
  have hj' : es.toList[j]? = some e := by simpa using hj
  refine ⟨stamped_modify F.st _ _ (fun _ _ => rfl) (fun e' _ he' => by rw [hj] at he'; cases he'; exact hk.symm), by simpa using F.size, ?_, put_ok F.ok ha u⟩
  rw [put_is (f := fun p => (T.kv p.1, T.vv p.2)) (fun x y u v h => T.inj x y h) F.nodup hm, ← F.is, Array.toList_modify, modify_eq_set _ _ _ _ hj', List.map_set]
/-- 'm[k] = v'. -/
theorem mp.store [DecidableEq κ] (h : mp T w b m) (hsz : m.length < maxLen) {a : κ} (ha : T.ok a) (u : β) : ∃ w', (Instr.mapUpdate T.t (.map (some b)) (T.kv a) (T.vv u)).run P w = .ok () w' ∧ mp T w' b (put m a u) ∧ w.mapTurned w' b := by
  obtain ⟨es, clock, hb, F⟩ := h
  obtain ⟨l, hl⟩ := T.key a ha
  rcases F.find w ha with ⟨h1, h2, h3⟩ | ⟨j, e, v, h1, h2, h3, h4, h5, h6⟩
  · refine ⟨setBlock w b (.map (es.push ⟨T.kv a, T.vv u, clock⟩) (clock + 1)), ?_, ⟨_, _, heap_setBlock_same hb _, F.new hsz ha h2 h3 u⟩, ⟨es, clock, _, _, hb, rfl⟩⟩
    simp [Instr.mapUpdate, run_underlying T.ht, MapKept.run_getObj_map hb, T.law.check w false hl, h1, MapKept.run_setObj_map _ hb, Result.andThen, setBlock]
  · refine ⟨setBlock w b (.map (es.modify j (fun e' => { e' with key := T.kv a, val := T.vv u })) clock), ?_, ⟨_, _, heap_setBlock_same hb _, F.over ha h2 h3 h5 u⟩, ⟨es, clock, _, _, hb, rfl⟩⟩
    simp [Instr.mapUpdate, run_underlying T.ht, MapKept.run_getObj_map hb, T.law.check w false hl, h1, h2, h3, T.law.stays w hl, MapKept.run_setObj_map _ hb, Result.andThen, setBlock]
theorem setBlock_twice (w : World) (b : Nat) (o o' : Obj) : setBlock (setBlock w b o) b o' = setBlock w b o' := by simp [setBlock]
theorem store_run {t : TypeId} {es : Array MapEntry} {clock st j : Nat} {v : Value} (hb : w.heap[b]? = some (.map es clock)) (hi : es.findIdx? (fun e => ((e.born : Nat) : Int) == ((st : Nat) : Int)) = some j) :
    (Instr.entryStore t (.map (some b)) (.int .i64 st) v).run P w = .ok () (setBlock w b (.map (es.modify j fun e => { e with val := v }) clock)) := by
  simp [Instr.entryStore, MapKept.run_getObj_map hb, asInt, asIntOf, hi, MapKept.run_setObj_map _ hb, Result.andThen, setBlock]
/-- 'm[k] += v': the entry, what it held, and the store. -/
theorem mp.entry [DecidableEq κ] (h : mp T w b m) (hsz : m.length < maxLen) {a : κ} (ha : T.ok a) : ∃ (st : Nat) (w1 : World), (Instr.mapEntry T.t (.map (some b)) (T.kv a)).run P w = .ok (.tuple #[T.vv ((get m a).getD T.z), .int .i64 st]) w1 ∧ w.mapTurned w1 b ∧
    (Instr.lookup T.t (.map (some b)) (T.kv a) false).run P w1 = .ok (T.vv ((get m a).getD T.z)) w1 ∧
    ∀ u, ∃ w2, (Instr.entryStore T.t (.map (some b)) (.int .i64 st) (T.vv u)).run P w1 = .ok () w2 ∧ mp T w2 b (put m a u) ∧ w.mapTurned w2 b := by
  obtain ⟨es, clock, hb, F⟩ := h
  obtain ⟨l, hl⟩ := T.key a ha
  obtain ⟨s1, s2, _⟩ := (stamped_iff es clock).1 F.st
  rcases F.find w ha with ⟨h1, h2, h3⟩ | ⟨j, e, v, h1, h2, h3, h4, h5, h6⟩
  · have F1 := F.new hsz ha h2 h3 T.z
    have hb1 := heap_setBlock_same hb (.map (es.push ⟨T.kv a, T.vv T.z, clock⟩) (clock + 1))
    have hl1 := mp.look ⟨_, _, hb1, F1⟩ ha
    rw [get_put, if_pos rfl, Option.getD_some] at hl1
    refine ⟨clock, setBlock w b (.map (es.push ⟨T.kv a, T.vv T.z, clock⟩) (clock + 1)), ?_, ⟨es, clock, _, _, hb, rfl⟩, ?_, fun u => ⟨setBlock w b (.map (es.push ⟨T.kv a, T.vv u, clock⟩) (clock + 1)), ?_, ⟨_, _, heap_setBlock_same hb _, F.new hsz ha h2 h3 u⟩, ⟨es, clock, _, _, hb, rfl⟩⟩⟩
    · rw [h3, Option.getD_none]
      simp [Instr.mapEntry, run_underlying T.ht, MapKept.run_getObj_map hb, T.law.check w false hl, h1, T.hz, MapKept.run_setObj_map _ hb, Result.andThen, setBlock, goInt]
    · rw [h3, Option.getD_none]
      exact hl1
    · have hidx : (es.push ⟨T.kv a, T.vv T.z, clock⟩).findIdx? (fun e => ((e.born : Nat) : Int) == ((clock : Nat) : Int)) = some es.size := by
        rw [WideElems.findIdx_arr]
        exact WideElems.findIdx_born (l := (es.push ⟨T.kv a, T.vv T.z, clock⟩).toList) (j := es.size) (e0 := ⟨T.kv a, T.vv T.z, clock⟩) (by
          simp only [Array.toList_push, List.map_append, List.map_cons, List.map_nil]
          refine List.nodup_append.2 ⟨s2, by simp, fun a ha c hc e1 => ?_⟩
          simp only [List.mem_singleton] at hc
          obtain ⟨x, hx, rfl⟩ := List.mem_map.1 ha
          have := s1 x hx
          omega) (by simp)
      have hmod : (es.push ⟨T.kv a, T.vv T.z, clock⟩).modify es.size (fun e => { e with val := T.vv u }) = es.push ⟨T.kv a, T.vv u, clock⟩ := by
        apply Array.ext'
        rw [Array.toList_modify, Array.toList_push, Array.toList_push, ← Array.length_toList, WideElems.modify_last]
      rw [store_run hb1 hidx, hmod, setBlock_twice]
  · have hj : es.toList[j]? = some e := by simpa using h2
    have hsame : es.modify j (fun e => { e with key := T.kv a }) = es := by
      apply Array.ext'
      rw [Array.toList_modify, modify_eq_set _ _ _ _ hj]
      have : ({ e with key := T.kv a } : MapEntry) = e := by rw [← h3]
      rw [this]
      exact WideElems.set_self _ _ _ hj
    have hlk := mp.look ⟨_, _, heap_setBlock_same hb (.map es clock), F⟩ ha
    have hb1 := heap_setBlock_same hb (.map es clock)
    refine ⟨e.born, setBlock w b (.map es clock), ?_, ⟨es, clock, _, _, hb, rfl⟩, hlk, fun u => ⟨setBlock w b (.map (es.modify j (fun e' => { e' with key := T.kv a, val := T.vv u })) clock), ?_, ⟨_, _, heap_setBlock_same hb _, F.over ha h2 h3 h5 u⟩, ⟨es, clock, _, _, hb, rfl⟩⟩⟩
    · rw [h6, Option.getD_some, ← h4]
      simp [Instr.mapEntry, run_underlying T.ht, MapKept.run_getObj_map hb, T.law.check w false hl, h1, h2, h3, T.law.stays w hl, hsame, MapKept.run_setObj_map _ hb, Result.andThen, setBlock, goInt]
    · have hidx : es.findIdx? (fun e' => ((e'.born : Nat) : Int) == ((e.born : Nat) : Int)) = some j := by
        rw [WideElems.findIdx_arr]
        exact WideElems.findIdx_born s2 hj
      have hmod : es.modify j (fun e => { e with val := T.vv u }) = es.modify j (fun e' => { e' with key := T.kv a, val := T.vv u }) := by
        apply Array.ext'
        rw [Array.toList_modify, Array.toList_modify, modify_eq_set _ _ _ _ hj, modify_eq_set _ _ _ _ hj, ← h3]
      rw [store_run hb1 hidx, hmod, setBlock_twice]
/-- 'delete(m, k)'. -/
theorem mp.drop [DecidableEq κ] (h : mp T w b m) {a : κ} (ha : T.ok a) (ty : TypeId) : ∃ w', (Builtin.delete_ #[T.t, T.k] ty #[.map (some b), T.kv a]).run P w = .ok (.tuple #[]) w' ∧ mp T w' b (del m a) ∧ w.mapTurned w' b := by
  obtain ⟨es, clock, hb, F⟩ := h
  obtain ⟨l, hl⟩ := T.key a ha
  rcases F.find w ha with ⟨h1, h2, h3⟩ | ⟨j, e, v, h1, h2, h3, h4, h5, h6⟩
  · refine ⟨setBlock w b (.map es clock), ?_, ⟨_, _, heap_setBlock_same hb _, ?_⟩, ⟨es, clock, _, _, hb, rfl⟩⟩
    · simp [Builtin.delete_, run_underlying T.ht, MapKept.run_getObj_map hb, T.law.check w _ hl, h1, MapKept.run_setObj_map _ hb, Result.andThen, setBlock]
    · rw [show del m a = m from List.filter_eq_self.2 fun p hp => by simpa using get_none.1 h3 p hp]
      exact F
  · have hjl : j < es.toList.length := by simpa using (Array.getElem?_eq_some_iff.1 h2).1
    have hjs : j < es.size := by simpa using hjl
    have hsub : (es.eraseIdxIfInBounds j).toList = es.toList.eraseIdx j := by
      unfold Array.eraseIdxIfInBounds
      rw [dif_pos hjs]
      simp
    have hdel : ∀ {m : List (κ × β)} {j : Nat}, (m.map Prod.fst).Nodup → m[j]? = some (a, v) → del m a = m.eraseIdx j := by
      intro m
      induction m with
      | nil => intro j _ h; simp at h
      | cons p m ih =>
        intro j hn h
        rw [List.map_cons, List.nodup_cons] at hn
        cases j with
        | zero =>
          simp at h
          subst h
          unfold del
          rw [List.filter_cons_of_neg (by simp)]
          exact List.filter_eq_self.2 fun q hq => by
            simp only [decide_eq_true_eq]
            exact fun e => hn.1 (List.mem_map.2 ⟨q, hq, e⟩)
        | succ j =>
          simp at h
          have hm : (a, v) ∈ m := List.mem_of_getElem? h
          unfold del at ih ⊢
          rw [List.filter_cons_of_pos (by simp only [decide_eq_true_eq]; exact fun e => hn.1 (by rw [e]; exact List.mem_map.2 ⟨_, hm, rfl⟩)), ih hn.2 h]
          rfl
    refine ⟨setBlock w b (.map (es.eraseIdxIfInBounds j) clock), ?_, ⟨_, _, heap_setBlock_same hb _, ⟨stamped_erase F.st j, Nat.le_trans (MapFrom.size_erase es j) F.size, ?_, fun p hp => F.ok p ((List.mem_filter.1 hp).1)⟩⟩, ⟨es, clock, _, _, hb, rfl⟩⟩
    · simp [Builtin.delete_, run_underlying T.ht, MapKept.run_getObj_map hb, T.law.check w _ hl, h1, MapKept.run_setObj_map _ hb, Result.andThen, setBlock]
    · rw [hsub, hdel F.nodup h5, map_eraseIdx, map_eraseIdx, F.is]
/-! ### ranging -/
/-- An iterator over a map: which entries are still to come. -/
def rng (T : Kv P κ β) (w : World) (b r : Nat) (m todo : List (κ × β)) : Prop :=
  ∃ es clock since seen c0, w.heap[b]? = some (.map es clock) ∧ Fits T es clock m ∧ w.heap[r]? = some (.mapIter (some b) since seen c0) ∧ (∀ x ∈ es.toList, x.born < since) ∧ since ≤ c0 ∧ since ≤ clock ∧
    todo = ((es.toList.zip m).filter fun q => !seen.contains q.1.born).map Prod.snd
theorem rng.mp (h : rng T w b r m todo) : mp T w b m := by
  obtain ⟨es, clock, since, seen, c0, hb, F, _⟩ := h
  exact ⟨es, clock, hb, F⟩
theorem rng.lt (h : rng T w b r m todo) : r < w.heap.size := by
  obtain ⟨es, clock, since, seen, c0, hb, F, hr, _⟩ := h
  exact (Array.getElem?_eq_some_iff.1 hr).1
theorem rng.ne (h : rng T w b r m todo) : r ≠ b := by
  obtain ⟨es, clock, since, seen, c0, hb, F, hr, _⟩ := h
  intro e
  rw [e, hb] at hr
  cases hr
theorem rng.same (h : rng T w b r m todo) (h1 : w'.heap[b]? = w.heap[b]?) (h2 : w'.heap[r]? = w.heap[r]?) : rng T w' b r m todo := by
  obtain ⟨es, clock, since, seen, c0, hb, F, hr, rest⟩ := h
  exact ⟨es, clock, since, seen, c0, h1.trans hb, F, h2.trans hr, rest⟩
theorem rng.alloc (h : rng T w b r m todo) (o : Obj) : rng T (w.alloc o) b r m todo := h.same ((MapKept.heap_alloc w o).2 b h.mp.lt) ((MapKept.heap_alloc w o).2 r h.lt)
theorem rng.set (h : rng T w b r m todo) {a : Addr} (hb : b ≠ a.block) (hr : r ≠ a.block) (u : Value) : rng T (w.setCell a u) b r m todo := h.same (RowKit.Below.heap_setCell _ _ _ _ hb) (RowKit.Below.heap_setCell _ _ _ _ hr)
theorem rng.below (h : rng T w b r m todo) (hB : RowKit.Below w.heap.size w w') : rng T w' b r m todo := h.same (hB.block b h.mp.lt) (hB.block r h.lt)
theorem zip_sub {α γ : Type} (p : α × γ → Bool) (l : List α) (m : List γ) : (((l.zip m).filter p).map Prod.snd).Sublist m := by
  induction l generalizing m with
  | nil => simp
  | cons x l ih =>
    cases m with
    | nil => simp
    | cons y m =>
      rw [List.zip_cons_cons, List.filter_cons]
      split
      · exact (ih m).cons_cons y
      · exact (ih m).cons y
theorem rng.sub (h : rng T w b r m todo) : todo.Sublist m := by
  obtain ⟨es, clock, since, seen, c0, hb, F, hr, _, _, _, rfl⟩ := h
  exact zip_sub _ _ _
theorem zip_fst {α γ : Type} : ∀ (l : List α) (m : List γ), l.length = m.length → (l.zip m).map Prod.fst = l ∧ (l.zip m).map Prod.snd = m
  | [], [], _ => ⟨rfl, rfl⟩
  | [], _ :: _, h => by simp at h
  | _ :: _, [], h => by simp at h
  | x :: l, y :: m, h => by
    have := zip_fst l m (by simpa using h)
    exact ⟨by rw [List.zip_cons_cons, List.map_cons, this.1], by rw [List.zip_cons_cons, List.map_cons, this.2]⟩
/-- 'range m'. -/
theorem mp.range (h : mp T w b m) : ∃ w', (Instr.range T.t (.map (some b))).run P w = .ok (.pointer (some ⟨w.heap.size, 0, none⟩)) w' ∧ rng T w' b w.heap.size m m ∧ w.grownBy w' none ∧ w'.heap.size = w.heap.size + 1 := by
  have hlt := h.lt
  obtain ⟨es, clock, hb, F⟩ := h
  have hlen : es.toList.length = m.length := by simpa using F.length
  refine ⟨_, run_range_map w T.t T.k T.e b es clock T.ht hb, ⟨es, clock, clock, #[], clock, ((MapKept.heap_alloc w _).2 b hlt).trans hb, F, (MapKept.heap_alloc w _).1, ((stamped_iff es clock).1 F.st).1, Nat.le_refl _, Nat.le_refl _, ?_⟩, World.grownBy_alloc w _ none, by simp⟩
  rw [List.filter_eq_self.2 (fun q _ => by simp), (zip_fst _ _ hlen).2]
theorem zip_filter_len {α γ : Type} (p : α → Bool) : ∀ (l : List α) (m : List γ), l.length = m.length → (((l.zip m).filter fun q => p q.1).map Prod.snd).length = (l.filter p).length
  | [], [], _ => rfl
  | [], _ :: _, h => by simp at h
  | _ :: _, [], h => by simp at h
  | x :: l, y :: m, h => by
    have := zip_filter_len p l m (by simpa using h)
    rw [List.zip_cons_cons, List.filter_cons, List.filter_cons]
    cases hp : p x
    · simp only [hp, Bool.false_eq_true, if_false]
      exact this
    · simp only [hp, if_true, List.map_cons, List.length_cons]
      rw [this]
theorem rng.left (h : rng T w b r m todo) : w.rangeLeft b r = todo.length := by
  obtain ⟨es, clock, since, seen, c0, hb, F, hr, _, _, _, rfl⟩ := h
  have hlen : es.toList.length = m.length := by simpa using F.length
  rw [zip_filter_len (fun e : MapEntry => !seen.contains e.born) es.toList m hlen]
  simp only [World.rangeLeft, hb, hr, leftOf]
  rw [← Array.toList_filter, Array.length_toList]
/-- The next entry. -/
theorem rng.next [DecidableEq κ] (h : rng T w b r m todo) (ty : TypeId) :
    (todo = [] ∧ (Instr.next (.pointer (some ⟨r, 0, none⟩)) false ty).run P w = .ok (.tuple #[.bool false]) w) ∨
    ∃ x v w', (x, v) ∈ todo ∧ (Instr.next (.pointer (some ⟨r, 0, none⟩)) false ty).run P w = .ok (.tuple #[.bool true, T.kv x, T.vv v]) w' ∧ rng T w' b r m (del todo x) ∧ w.grownBy w' (some r) ∧ w'.heap.size = w.heap.size ∧
      (Instr.entry (.pointer (some ⟨r, 0, none⟩))).run P w' = .ok (.tuple #[T.kv x, T.vv v]) w' := by
  have hne := h.ne
  obtain ⟨es, clock, since, seen, c0, hb, F, hr, hold, hsc, hsk, rfl⟩ := h
  have hlen : es.toList.length = m.length := by simpa using F.length
  have hst := (stamped_iff es clock).1 F.st
  rcases run_next_at (P := P) w ty r b since c0 seen es clock hr hb hold hsc with ⟨h0, hrun⟩ | ⟨e, he, w1, hal, hrun⟩
  · refine .inl ⟨?_, hrun⟩
    have h1 : ∀ x ∈ es.toList, seen.contains x.born = true := fun x hx => by
      have := all_seen es seen h0 x hx
      simpa using this
    rw [List.filter_eq_nil_iff.2 (fun q hq => by
      have := h1 q.1 (List.of_mem_zip hq).1
      simp only [this]
      simp)]
    rfl
  · obtain ⟨hem, hes⟩ := mem_left he
    obtain ⟨j, hj⟩ := List.getElem?_of_mem hem
    obtain ⟨⟨x, v⟩, hm, hk, hv⟩ := F.from (by simpa using hj)
    have hr1 : w1.heap[r]? = some (.mapIter (some b) since seen c0) := by rcases hal with rfl | rfl <;> exact hr
    have hb1 : w1.heap[b]? = some (.map es clock) := by rcases hal with rfl | rfl <;> exact hb
    have hset := heap_set (o' := .mapIter (some b) since (seen.push e.born) clock) hr1
    have hb' : (setBlock w1 r (.mapIter (some b) since (seen.push e.born) clock)).heap[b]? = some (.map es clock) := (hset.2 b (fun e1 => hne e1.symm)).trans hb1
    have hz : (es.toList.zip m)[j]? = some (e, (x, v)) := by
      rw [List.getElem?_zip_eq_some]
      exact ⟨hj, hm⟩
    have hent : (Instr.entry (.pointer (some ⟨r, 0, none⟩))).run P (setBlock w1 r (.mapIter (some b) since (seen.push e.born) clock)) = .ok (.tuple #[T.kv x, T.vv v]) (setBlock w1 r (.mapIter (some b) since (seen.push e.born) clock)) := by
      rw [run_entry_at _ r b since seen es clock e hset.1 hb' hem hst.2.1, hk, hv]
    refine .inr ⟨x, v, _, ?_, by rw [hrun, hk, hv], ⟨es, clock, since, seen.push e.born, clock, hb', F, hset.1, hold, hsk, hsk, ?_⟩, ?_, ?_, hent⟩
    · refine List.mem_map.2 ⟨(e, (x, v)), List.mem_filter.2 ⟨List.mem_of_getElem? hz, ?_⟩, rfl⟩
      simp only [Bool.not_eq_true']
      simpa using hes
    · unfold del
      rw [List.filter_map, List.filter_filter]
      congr 1
      apply List.filter_congr
      intro q hq
      obtain ⟨i, hi⟩ := List.getElem?_of_mem hq
      rw [List.getElem?_zip_eq_some] at hi
      obtain ⟨p, hp, hpk, _⟩ := F.from (by simpa using hi.1)
      rw [hi.2] at hp
      cases hp
      have hqe : q.1.born = e.born ↔ q.2.1 = x := by
        constructor
        · intro hbe
          obtain hqe := born_inj hst.2.1 (List.mem_of_getElem? hi.1) hem hbe
          exact T.inj _ _ (by rw [← hpk, hqe, hk])
        · intro hx
          have hqe := entry_eq_of_key hst.2.2 (List.mem_of_getElem? hi.1) hem (by rw [hpk, hk, hx])
          rw [hqe]
      rw [contains_push]
      simp only [Function.comp]
      by_cases hx : q.2.1 = x
      · have := hqe.2 hx
        simp [hx, this]
      · have : ¬ q.1.born = e.born := fun e1 => hx (hqe.1 e1)
        simp [hx, this]
    · rcases hal with rfl | rfl <;> exact ⟨rfl, rfl, rfl, by simp [setBlock], fun i _ hi => hset.2 i (fun e1 => hi (by rw [e1]))⟩
    · rcases hal with rfl | rfl <;> simp [setBlock]
end
section
variable {P : Program} {κ β : Type} {T : Kv P κ β} {b r : Nat} {m todo : List (κ × β)} (w : World) {ops : Array Oper} {rest : List Oper} {o : Oper} {a : Act} {Q : Exit → Act → World → Prop}
/-- 'range m', at the operation. -/
theorem wpList_range_mp (hg : o.guard = none) (mo : Operand) (t : TypeId) (et : T.t = t) (hop : o.op = Op.range t mo) (hm : a.eval mo = .map (some b)) (h : mp T w b m)
    (hK : ∀ w', rng T w' b w.heap.size m m → w.grownBy w' none → w'.heap.size = w.heap.size + 1 → wpList P ops Q rest (a.put o.dst (.pointer (some ⟨w.heap.size, 0, none⟩))) w') :
    wpList P ops Q (o :: rest) a w := by
  subst et
  refine wpList_plain hg fun K' hK' => ?_
  obtain ⟨w', hrun, r1, r2, r3⟩ := h.range
  unfold Oper.wp
  simp [execOp, hop, hm, hrun, Result.andThen]
  exact hK' _ _ (hK w' r1 r2 r3)
/-- The next entry, at the operation. -/
theorem wpList_next_mp [DecidableEq κ] (hg : o.guard = none) (it : Operand) (hop : o.op = Op.next it false) (hit : a.eval it = .pointer (some ⟨r, 0, none⟩)) (h : rng T w b r m todo) (mk : κ → Value) (mv : β → Value) (ek : T.kv = mk) (ev : T.vv = mv)
    (hDone : todo = [] → wpList P ops Q rest (a.put o.dst (.tuple #[.bool false])) w)
    (hMore : ∀ x v w', (x, v) ∈ todo → rng T w' b r m (del todo x) → w.grownBy w' (some r) → w'.heap.size = w.heap.size → (Instr.entry (.pointer (some ⟨r, 0, none⟩))).run P w' = .ok (.tuple #[mk x, mv v]) w' → wpList P ops Q rest (a.put o.dst (.tuple #[.bool true, mk x, mv v])) w') :
    wpList P ops Q (o :: rest) a w := by
  subst ek ev
  refine wpList_plain hg fun K' hK' => ?_
  unfold Oper.wp
  rcases h.next o.type with ⟨h0, hrun⟩ | ⟨x, v, w', hx, hrun, hr, hgr, hsz, hen⟩
  · simp [execOp, hop, hit, hrun, Result.andThen]
    exact hK' _ _ (hDone h0)
  · simp [execOp, hop, hit, hrun, Result.andThen]
    exact hK' _ _ (hMore x v w' hx hr hgr hsz hen)
end
theorem list_del_len {κ β : Type} [DecidableEq κ] {m : List (κ × β)} {x : κ} {v : β} (h : (x, v) ∈ m) : (del m x).length < m.length := by
  unfold del
  induction m with
  | nil => simp at h
  | cons p m ih =>
    rw [List.filter_cons]
    rcases List.mem_cons.1 h with h | h
    · subst h
      rw [if_neg (by simp)]
      have := List.length_filter_le (fun p : κ × β => decide (p.1 ≠ x)) m
      simp only [List.length_cons]
      omega
    · have := ih h
      split <;> simp only [List.length_cons] <;> omega
end Go.Proofs.Ytbfjlfbahjmibaa.Mp

namespace Go.Proofs.Ytbfjlfbahjmibaa.Bpe
open Go.RowKit Go.Proofs.YtbfjlfbahjmibaaW.PrintWords Go.Proofs.Ytbfjlfbahjmibaa.Pr Go.Proofs.Ytbfjlfbahjmibaa.Mp
set_option linter.unusedVariables false
set_option linter.unusedSimpArgs false
def tx (s : ByteArray) : List UInt8 := s.data.toList
theorem tx_inj {a b : ByteArray} (h : tx a = tx b) : a = b := ByteArray.ext (Array.toList_inj.1 h)
theorem tx_append (a b : ByteArray) : tx (a ++ b) = tx a ++ tx b := by simp [tx]
theorem tx_one (c : UInt8) : tx (mkT c) = [c] := rfl
theorem tx_size (s : ByteArray) : (tx s).length = s.size := by simp [tx]
theorem list_inj {a b : ByteArray} : a.toList = b.toList ↔ a = b := by
  rw [ByteArray.toList_eq, ByteArray.toList_eq]
  exact ⟨tx_inj, fun h => h ▸ rfl⟩
/-- A word behind the merge of a and b. -/
def jn (a b : ByteArray) : List ByteArray → List ByteArray
  | p :: q :: r => if p = a ∧ q = b then (a ++ b) :: jn a b r else p :: jn a b (q :: r)
  | w => w
/-- The pairs of a and b in a word. -/
def pc (a b : ByteArray) : List ByteArray → Nat
  | p :: q :: r => (if p = a ∧ q = b then 1 else 0) + pc a b (q :: r)
  | _ => 0
/-- How often a text is in a word. -/
def oc (s : ByteArray) : List ByteArray → Nat
  | [] => 0
  | x :: w => (if x = s then 1 else 0) + oc s w
section
variable {a b c d p : ByteArray}
@[simp] theorem jn_nil : jn a b [] = [] := rfl
@[simp] theorem jn_one (x : ByteArray) : jn a b [x] = [x] := rfl
theorem jn_two (p q : ByteArray) (r : List ByteArray) : jn a b (p :: q :: r) = if p = a ∧ q = b then (a ++ b) :: jn a b r else p :: jn a b (q :: r) := by rw [jn]
@[simp] theorem pc_nil : pc a b [] = 0 := rfl
@[simp] theorem pc_one (x : ByteArray) : pc a b [x] = 0 := rfl
theorem pc_two (p q : ByteArray) (r : List ByteArray) : pc a b (p :: q :: r) = (if p = a ∧ q = b then 1 else 0) + pc a b (q :: r) := by rw [pc]
theorem pc_tail (p : ByteArray) (r : List ByteArray) : pc a b r ≤ pc a b (p :: r) := by
  cases r with
  | nil => simp
  | cons q r => rw [pc_two]; omega
theorem pc_len : ∀ w : List ByteArray, pc a b w ≤ w.length - 1
  | [] => by simp
  | [x] => by simp
  | p :: q :: r => by
    have := pc_len (q :: r)
    rw [pc_two]
    simp only [List.length_cons] at this ⊢
    split <;> omega
theorem jn_len_le : ∀ w : List ByteArray, (jn a b w).length ≤ w.length
  | [] => by simp
  | [x] => by simp
  | p :: q :: r => by
    have h1 := jn_len_le r
    have h2 := jn_len_le (q :: r)
    rw [jn_two]
    split <;> simp only [List.length_cons] at * <;> omega
theorem jn_len_ge : ∀ w : List ByteArray, w.length ≤ (jn a b w).length + pc a b w
  | [] => by simp
  | [x] => by simp
  | p :: q :: r => by
    have h1 := jn_len_ge r
    have h2 := jn_len_ge (q :: r)
    have h3 := pc_tail (a := a) (b := b) q r
    rw [jn_two, pc_two]
    split <;> simp only [List.length_cons] at * <;> omega
theorem jn_len_lt : ∀ w : List ByteArray, 1 ≤ pc a b w → (jn a b w).length + 1 ≤ w.length
  | [], h => by simp at h
  | [x], h => by simp at h
  | p :: q :: r, h => by
    have h1 := jn_len_le (a := a) (b := b) r
    rw [pc_two] at h
    rw [jn_two]
    split
    · simp only [List.length_cons] at *; omega
    · rename_i hn
      rw [if_neg hn] at h
      have h2 := jn_len_lt (q :: r) (by omega)
      simp only [List.length_cons] at *; omega
theorem jn_oc : ∀ w : List ByteArray, oc (a ++ b) (jn a b w) ≤ oc (a ++ b) w + pc a b w
  | [] => by simp [oc]
  | [x] => by simp [oc]
  | p :: q :: r => by
    have h1 := jn_oc r
    have h2 := jn_oc (q :: r)
    have h3 := pc_tail (a := a) (b := b) q r
    rw [jn_two, pc_two]
    split
    · rw [oc, if_pos rfl, oc, oc]; omega
    · rw [oc, oc]; omega
theorem pc_left : ∀ w : List ByteArray, pc c d w ≤ oc c w
  | [] => by simp [oc]
  | [x] => by simp
  | p :: q :: r => by
    have h1 := pc_left (q :: r)
    rw [pc_two, oc]
    split
    · rename_i h; rw [if_pos h.1]; omega
    · omega
theorem pc_right : ∀ (p : ByteArray) (w : List ByteArray), pc c d (p :: w) ≤ oc d w
  | p, [] => by simp
  | p, q :: r => by
    have h1 := pc_right q r
    rw [pc_two, oc]
    split
    · rename_i h; rw [if_pos h.2]; omega
    · omega
theorem pc_right' (w : List ByteArray) : pc c d w ≤ oc d w := by
  cases w with
  | nil => simp
  | cons p w => exact Nat.le_trans (pc_right p w) (by rw [oc]; omega)
theorem oc_zero {s : ByteArray} : ∀ {w : List ByteArray}, s ∉ w → oc s w = 0
  | [], _ => rfl
  | x :: w, h => by rw [oc, if_neg (fun e => h (by simp [e])), oc_zero (fun hm => h (by simp [hm]))]
theorem pc_skip (hc : c ≠ p) : ∀ w : List ByteArray, pc c d (p :: w) = pc c d w
  | [] => rfl
  | q :: r => by rw [pc_two, if_neg (fun h => hc h.1.symm)]; omega
/-- A pair without the new text is there behind the merge at most as often. -/
theorem pc_old (hc : c ≠ a ++ b) (hd : d ≠ a ++ b) : ∀ (w : List ByteArray) (p : ByteArray), pc c d (p :: jn a b w) ≤ pc c d (p :: w)
  | [], p => by simp
  | [x], p => by simp
  | x :: y :: r, p => by
    rw [jn_two]
    split
    · rw [pc_two, if_neg (fun h => hd h.2.symm)]
      have h1 := pc_old hc hd r (a ++ b)
      rw [pc_skip hc r] at h1
      have h3 := pc_tail (a := c) (b := d) y r
      have h4 := pc_tail (a := c) (b := d) x (y :: r)
      have h5 := pc_tail (a := c) (b := d) p (x :: y :: r)
      omega
    · have h1 := pc_old hc hd (y :: r) x
      rw [pc_two, pc_two p x]
      omega
theorem pc_old' (hc : c ≠ a ++ b) (hd : d ≠ a ++ b) (w : List ByteArray) : pc c d (jn a b w) ≤ pc c d w := by
  have := pc_old hc hd w (a ++ b)
  rwa [pc_skip hc, pc_skip hc] at this
/-- A pair with the new text is there behind the merge at most as often as what was merged. -/
theorem pc_new {w : List ByteArray} (hn : a ++ b ∉ w) (h : c = a ++ b ∨ d = a ++ b) : pc c d (jn a b w) ≤ pc a b w := by
  have h1 := jn_oc (a := a) (b := b) w
  rw [oc_zero hn] at h1
  rcases h with rfl | rfl
  · exact Nat.le_trans (pc_left _) (by omega)
  · exact Nat.le_trans (pc_right' _) (by omega)
theorem pc_mem : ∀ w : List ByteArray, 1 ≤ pc a b w → ∃ A C, w = A ++ [a, b] ++ C
  | [], h => by simp at h
  | [x], h => by simp at h
  | p :: q :: r, h => by
    by_cases hp : p = a ∧ q = b
    · exact ⟨[], r, by rw [hp.1, hp.2]; rfl⟩
    · rw [pc_two, if_neg hp] at h
      obtain ⟨A, C, e⟩ := pc_mem (q :: r) (by omega)
      exact ⟨p :: A, C, by rw [e]; rfl⟩
theorem pc_of_mem : ∀ (A C : List ByteArray), 1 ≤ pc a b (A ++ [a, b] ++ C)
  | [], C => by show 1 ≤ pc a b (a :: b :: C); rw [pc_two, if_pos ⟨rfl, rfl⟩]; omega
  | p :: A, C => Nat.le_trans (pc_of_mem A C) (pc_tail p _)
/-! ### texts -/
def flat (w : List ByteArray) : List UInt8 := (w.map tx).flatten
def base (t : List UInt8) : List ByteArray := t.map mkT
theorem flat_base (t : List UInt8) : flat (base t) = t := by
  induction t with
  | nil => rfl
  | cons c t ih => simp only [base, flat, List.map_cons, List.flatten_cons, tx_one] at ih ⊢; rw [ih]; rfl
theorem flat_cons (p : ByteArray) (w : List ByteArray) : flat (p :: w) = tx p ++ flat w := by simp [flat]
theorem flat_append (u v : List ByteArray) : flat (u ++ v) = flat u ++ flat v := by simp [flat]
theorem flat_jn : ∀ w : List ByteArray, flat (jn a b w) = flat w
  | [] => rfl
  | [x] => rfl
  | p :: q :: r => by
    have h1 := flat_jn r
    have h2 := flat_jn (q :: r)
    rw [jn_two]
    split
    · rename_i h
      rw [flat_cons, flat_cons, flat_cons, h1, h.1, h.2, tx_append, List.append_assoc]
    · rw [flat_cons, h2, ← flat_cons]
/-- What is read apart behind a merge was apart before it. -/
theorem jn_split : ∀ (w A R : List ByteArray), jn a b w = A ++ R → ∃ u v, w = u ++ v ∧ jn a b u = A ∧ jn a b v = R
  | w, [], R, h => ⟨[], w, rfl, rfl, h⟩
  | [], x :: A, R, h => by simp at h
  | [x], y :: A, R, h => by
    rw [jn_one, List.cons_append] at h
    injection h with h1 h2
    have h3 := List.append_eq_nil_iff.1 h2.symm
    rw [h1, h3.1, h3.2]
    exact ⟨[y], [], rfl, rfl, rfl⟩
  | p :: q :: r, x :: A, R, h => by
    rw [jn_two] at h
    split at h
    · rename_i hp
      rw [List.cons_append] at h
      injection h with h1 h2
      obtain ⟨u, v, e, hu, hv⟩ := jn_split r A R h2
      exact ⟨p :: q :: u, v, by rw [e]; rfl, by rw [jn_two, if_pos hp, hu, h1], hv⟩
    · rename_i hp
      rw [List.cons_append] at h
      injection h with h1 h2
      obtain ⟨u, v, e, hu, hv⟩ := jn_split (q :: r) A R h2
      refine ⟨p :: u, v, by rw [e]; rfl, ?_, hv⟩
      cases u with
      | nil => rw [jn_one]; rw [jn_nil] at hu; rw [← hu, h1]
      | cons y u =>
        rw [List.cons_append] at e
        injection e with e1 e2
        subst e1
        rw [jn_two, if_neg hp, hu, h1]
end
/-- Words behind merges. -/
def seg (m : List S45) (w : List ByteArray) : List ByteArray := m.foldl (fun w x => jn x.f0 x.f1 w) w
theorem seg_nil (w : List ByteArray) : seg [] w = w := rfl
theorem seg_cons (x : S45) (m : List S45) (w : List ByteArray) : seg (x :: m) w = seg m (jn x.f0 x.f1 w) := rfl
theorem seg_snoc (m : List S45) (x : S45) (w : List ByteArray) : seg (m ++ [x]) w = jn x.f0 x.f1 (seg m w) := by simp [seg]
theorem seg_append (m n : List S45) (w : List ByteArray) : seg (m ++ n) w = seg n (seg m w) := by simp [seg]
theorem seg_len (m : List S45) : ∀ w, (seg m w).length ≤ w.length := by
  induction m with
  | nil => exact fun w => Nat.le_refl _
  | cons x m ih => exact fun w => Nat.le_trans (ih _) (jn_len_le w)
theorem flat_seg (m : List S45) : ∀ w, flat (seg m w) = flat w := by
  induction m with
  | nil => exact fun w => rfl
  | cons x m ih => exact fun w => (ih _).trans (flat_jn w)
theorem seg_single (m : List S45) (x : ByteArray) : seg m [x] = [x] := by
  induction m with
  | nil => rfl
  | cons y m ih => rw [seg_cons, jn_one, ih]
theorem seg_split (m : List S45) : ∀ (w A R : List ByteArray), seg m w = A ++ R → ∃ u v, w = u ++ v ∧ seg m u = A ∧ seg m v = R := by
  induction m with
  | nil => exact fun w A R h => ⟨A, R, h, rfl, rfl⟩
  | cons x m ih =>
    intro w A R h
    rw [seg_cons] at h
    obtain ⟨u, v, e, hu, hv⟩ := ih _ _ _ h
    obtain ⟨u', v', e', hu', hv'⟩ := jn_split w u v e
    exact ⟨u', v', e', by rw [seg_cons, hu', hu], by rw [seg_cons, hv', hv]⟩
/-- What lies within a word behind merges is what its own text comes to. -/
theorem seg_inner (m : List S45) (t : List UInt8) (A B C : List ByteArray) (h : seg m (base t) = A ++ B ++ C) : seg m (base (flat B)) = B := by
  obtain ⟨u, v, e, hu, hv⟩ := seg_split m _ _ _ h
  obtain ⟨u1, u2, e1, hu1, hu2⟩ := seg_split m _ _ _ hu
  rw [e1] at e
  obtain ⟨t1, t2, _, h1, h2⟩ := List.map_eq_append_iff.1 e
  obtain ⟨t3, t4, _, h3, h4⟩ := List.map_eq_append_iff.1 h1
  have h5 : u2 = base t4 := h4.symm
  have h6 : flat B = t4 := by rw [← hu2, flat_seg, h5, flat_base]
  rw [h6, ← h5, hu2]
theorem seg_pair {m : List S45} {t : List UInt8} {x y : ByteArray} (h : 1 ≤ pc x y (seg m (base t))) : seg m (base (tx x ++ tx y)) = [x, y] := by
  obtain ⟨A, C, e⟩ := pc_mem _ h
  have := seg_inner m t A [x, y] C e
  rwa [show flat [x, y] = tx x ++ tx y by simp [flat]] at this
theorem seg_mem {m : List S45} {t : List UInt8} {x : ByteArray} (h : x ∈ seg m (base t)) : seg m (base (tx x)) = [x] := by
  obtain ⟨A, C, e⟩ := List.append_of_mem h
  have := seg_inner m t A [x] C (by rw [e]; simp)
  rwa [show flat [x] = tx x by simp [flat]] at this
/-- What a pair that is there is merged to isn't there yet. -/
theorem fresh {m : List S45} {t t' : List UInt8} {x y : ByteArray} (h : 1 ≤ pc x y (seg m (base t))) : x ++ y ∉ seg m (base t') := fun hm => by
  have h1 := seg_pair h
  have h2 := seg_mem hm
  rw [tx_append, h1] at h2
  simp at h2
/-- No text is made twice. -/
theorem made_once {m n : List S45} {t t' : List UInt8} {x y x' y' : ByteArray} (h : 1 ≤ pc x y (seg m (base t))) (h' : 1 ≤ pc x' y' (seg (m ++ [⟨x, y⟩] ++ n) (base t'))) : x ++ y ≠ x' ++ y' := fun he => by
  have h1 := seg_pair h
  have h2 := seg_pair h'
  rw [← tx_append, ← he, tx_append, List.append_assoc, seg_append, h1, seg_append, seg_cons, seg_nil, jn_two, if_pos ⟨rfl, rfl⟩, jn_nil, seg_single] at h2
  simp at h2
/-- Each text of a word is of one byte, or made by a merge. -/
theorem seg_made (m : List S45) (t : List UInt8) : ∀ x ∈ seg m (base t), (∃ c, x = mkT c) ∨ ∃ y ∈ m, x = y.f0 ++ y.f1 := by
  have key : ∀ (a b : ByteArray) (w : List ByteArray), ∀ x ∈ jn a b w, x ∈ w ∨ x = a ++ b := by
    intro a b w
    induction w using jn.induct a b with
    | case1 p q r h ih =>
      intro x hx
      rw [jn_two, if_pos h] at hx
      rcases List.mem_cons.1 hx with rfl | hx
      · exact .inr rfl
      · rcases ih x hx with h1 | h1
        · exact .inl (by simp [h1])
        · exact .inr h1
    | case2 p q r h ih =>
      intro x hx
      rw [jn_two, if_neg h] at hx
      rcases List.mem_cons.1 hx with rfl | hx
      · exact .inl (by simp)
      · rcases ih x hx with h1 | h1
        · exact .inl (List.mem_cons_of_mem _ h1)
        · exact .inr h1
    | case3 w h =>
      intro x hx
      match w, h with
      | [], _ => exact .inl hx
      | [y], _ => exact .inl hx
      | p :: q :: r, h => exact absurd rfl (h p q r)
  have loop : ∀ (m : List S45) (w : List ByteArray), ∀ x ∈ seg m w, x ∈ w ∨ ∃ y ∈ m, x = y.f0 ++ y.f1 := by
    intro m
    induction m with
    | nil => exact fun w x hx => .inl hx
    | cons z m ih =>
      intro w x hx
      rcases ih _ x hx with h1 | ⟨y, hy, e⟩
      · rcases key _ _ _ x h1 with h2 | h2
        · exact .inl h2
        · exact .inr ⟨z, by simp, h2⟩
      · exact .inr ⟨y, by simp [hy], e⟩
  intro x hx
  rcases loop m _ x hx with h | h
  · obtain ⟨c, _, e⟩ := List.mem_map.1 h
    exact .inl ⟨c, e.symm⟩
  · exact .inr h
theorem wi (i : Nat) (h : i < 9223372036854775807) : wrap64 ((i : Int) + 1) = ((i + 1 : Nat) : Int) := by unfold wrap64; omega
theorem rdI (l : List Int) (i : Nat) (h : i < l.length) : rd l (i : Int) = l[i] := by
  unfold rd
  rw [Int.toNat_natCast]
  simp [h]
theorem rdW (ws : List (List ByteArray)) (i : Nat) (h : i < ws.length) : rd_L4 ws (i : Int) = ws[i] := by
  unfold rd_L4
  rw [Int.toNat_natCast]
  simp [h]
theorem rdB (w : List ByteArray) (i : Nat) (h : i < w.length) : rdOf ByteArray.empty w (i : Int) = w[i] := by
  unfold rdOf
  rw [Int.toNat_natCast]
  simp [h]
theorem wrap_id {n : Int} (h : -9223372036854775808 ≤ n) (h' : n ≤ 9223372036854775807) : wrap64 n = n := by unfold wrap64; omega
/-- How often a pair is there, in all. -/
def wc (a b : ByteArray) : List (List ByteArray) → List Int → Int
  | w :: ws, c :: cs => (if c < 1 then 0 else c * (pc a b w : Int)) + wc a b ws cs
  | _, _ => 0
/-- What no count is above. -/
def tot : List (List ByteArray) → List Int → Int
  | w :: ws, c :: cs => (if c < 1 then 0 else c * ((w.length - 1 : Nat) : Int)) + tot ws cs
  | _, _ => 0
theorem wc_nonneg (a b : ByteArray) : ∀ ws cs, 0 ≤ wc a b ws cs
  | [], _ => by simp [wc]
  | _ :: _, [] => by simp [wc]
  | w :: ws, c :: cs => by
    have := wc_nonneg a b ws cs
    rw [wc]
    split
    · omega
    · have : 0 ≤ c * (pc a b w : Int) := Int.mul_nonneg (by omega) (by omega)
      omega
theorem wc_le (a b : ByteArray) : ∀ ws cs, wc a b ws cs ≤ tot ws cs
  | [], _ => by simp [wc, tot]
  | _ :: _, [] => by simp [wc, tot]
  | w :: ws, c :: cs => by
    have := wc_le a b ws cs
    rw [wc, tot]
    split
    · omega
    · have h1 := pc_len (a := a) (b := b) w
      have : c * (pc a b w : Int) ≤ c * ((w.length - 1 : Nat) : Int) := Int.mul_le_mul_of_nonneg_left (by omega) (by omega)
      omega
theorem tot_nonneg : ∀ ws cs, 0 ≤ tot ws cs
  | [], _ => by simp [tot]
  | _ :: _, [] => by simp [tot]
  | w :: ws, c :: cs => by
    have := tot_nonneg ws cs
    rw [tot]
    split
    · omega
    · have : 0 ≤ c * ((w.length - 1 : Nat) : Int) := Int.mul_nonneg (by omega) (by omega)
      omega
/-- Each pair that is there, is in some word that counts. -/
theorem wc_pos {a b : ByteArray} : ∀ {ws cs}, 1 ≤ wc a b ws cs → ∃ (i : Nat) (w : List ByteArray) (c : Int), ws[i]? = some w ∧ cs[i]? = some c ∧ 1 ≤ c ∧ 1 ≤ pc a b w
  | [], _, h => by simp [wc] at h
  | _ :: _, [], h => by simp [wc] at h
  | w :: ws, c :: cs, h => by
    rw [wc] at h
    by_cases hc : c < 1
    · rw [if_pos hc] at h
      obtain ⟨i, w', c', h1, h2, h3⟩ := wc_pos (by omega : 1 ≤ wc a b ws cs)
      exact ⟨i + 1, w', c', by simpa using h1, by simpa using h2, h3⟩
    · rw [if_neg hc] at h
      rcases Nat.eq_zero_or_pos (pc a b w) with hp | hp
      · rw [hp] at h
        obtain ⟨i, w', c', h1, h2, h3⟩ := wc_pos (by simpa using h : 1 ≤ wc a b ws cs)
        exact ⟨i + 1, w', c', by simpa using h1, by simpa using h2, h3⟩
      · exact ⟨0, w, c, rfl, rfl, by omega, hp⟩
theorem wc_of {a b : ByteArray} : ∀ {ws : List (List ByteArray)} {cs : List Int} (i : Nat) (w : List ByteArray) (c : Int), ws[i]? = some w → cs[i]? = some c → 1 ≤ c → 1 ≤ pc a b w → 1 ≤ wc a b ws cs
  | [], _, i, w, c, h1, _, _, _ => by simp at h1
  | _ :: _, [], i, w, c, _, h2, _, _ => by simp at h2
  | x :: ws, y :: cs, 0, w, c, h1, h2, hc, hp => by
    simp at h1 h2
    subst h1 h2
    rw [wc, if_neg (by omega)]
    have h1 := wc_nonneg a b ws cs
    have : y * 1 ≤ y * (pc a b x : Int) := Int.mul_le_mul_of_nonneg_left (by omega) (by omega)
    omega
  | x :: ws, y :: cs, i + 1, w, c, h1, h2, hc, hp => by
    have h3 := wc_of (a := a) (b := b) (ws := ws) (cs := cs) i w c (by simpa using h1) (by simpa using h2) hc hp
    rw [wc]
    split
    · omega
    · have : 0 ≤ y * (pc a b x : Int) := Int.mul_nonneg (by omega) (by omega)
      omega
/-- The pairs by their places. -/
theorem pc_at {a b : ByteArray} : ∀ {w : List ByteArray}, 1 ≤ pc a b w → ∃ j : Nat, w[j]? = some a ∧ w[j + 1]? = some b
  | [], h => by simp at h
  | [x], h => by simp at h
  | p :: q :: r, h => by
    by_cases hp : p = a ∧ q = b
    · exact ⟨0, by simp [hp.1], by simp [hp.2]⟩
    · rw [pc_two, if_neg hp] at h
      obtain ⟨j, h1, h2⟩ := pc_at (a := a) (b := b) (w := q :: r) (by omega)
      exact ⟨j + 1, by simpa using h1, by simpa using h2⟩
theorem pc_of {a b : ByteArray} : ∀ {w : List ByteArray} (j : Nat), w[j]? = some a → w[j + 1]? = some b → 1 ≤ pc a b w
  | [], j, h, _ => by simp at h
  | [x], j, _, h => by simp at h
  | p :: q :: r, 0, h1, h2 => by
    simp at h1 h2
    rw [pc_two, if_pos ⟨h1, h2⟩]
    omega
  | p :: q :: r, j + 1, h1, h2 => by
    have := pc_of (w := q :: r) j (by simpa using h1) (by simpa using h2)
    exact Nat.le_trans this (pc_tail p _)
/-- How many steps a walk over all words takes. -/
def rem : List (List ByteArray) → Nat
  | [] => 0
  | w :: ws => w.length + 3 + rem ws
theorem rem_drop (ws : List (List ByteArray)) (i : Nat) (h : i < ws.length) : rem (ws.drop i) = ws[i].length + 3 + rem (ws.drop (i + 1)) := by
  rw [List.drop_eq_getElem_cons h, rem]
theorem rem_all (ws : List (List ByteArray)) : rem (ws.drop ws.length) = 0 := by rw [List.drop_length]; rfl
theorem u8_lt {a b : UInt8} : a < b ↔ a.toNat < b.toNat := Iff.rfl
theorem lessL_irr : ∀ a : List UInt8, lessL a a = false
  | [] => rfl
  | c :: a => by rw [lessL, if_pos rfl, lessL_irr a]
theorem lessL_trans : ∀ {a b c : List UInt8}, lessL a b = true → lessL b c = true → lessL a c = true
  | [], [], _, h, _ => by simp [lessL] at h
  | [], _ :: _, [], _, h => by simp [lessL] at h
  | [], _ :: _, _ :: _, _, _ => rfl
  | _ :: _, [], _, h, _ => by simp [lessL] at h
  | _ :: _, _ :: _, [], _, h => by simp [lessL] at h
  | x :: a, y :: b, z :: c, h, h' => by
    rw [lessL] at h h' ⊢
    by_cases h1 : x = y
    · subst h1
      rw [if_pos rfl] at h
      by_cases h2 : x = z
      · rw [if_pos h2] at h' ⊢
        exact lessL_trans h h'
      · rw [if_neg h2] at h' ⊢
        exact h'
    · rw [if_neg h1] at h
      have h3 := u8_lt.1 (of_decide_eq_true h)
      by_cases h2 : y = z
      · subst h2
        rw [if_neg h1]
        exact h
      · rw [if_neg h2] at h'
        have h4 := u8_lt.1 (of_decide_eq_true h')
        rw [if_neg (fun e => by rw [e] at h3; omega)]
        exact decide_eq_true (u8_lt.2 (by omega))
theorem lessL_total : ∀ {a b : List UInt8}, lessL a b = false → lessL b a = false → a = b
  | [], [], _, _ => rfl
  | [], _ :: _, h, _ => by simp [lessL] at h
  | _ :: _, [], _, h => by simp [lessL] at h
  | x :: a, y :: b, h, h' => by
    rw [lessL] at h h'
    by_cases h1 : x = y
    · subst h1
      rw [if_pos rfl] at h h'
      rw [lessL_total h h']
    · rw [if_neg h1] at h
      rw [if_neg (fun e => h1 e.symm)] at h'
      have h3 := of_decide_eq_false h
      have h4 := of_decide_eq_false h'
      rw [u8_lt] at h3 h4
      exact absurd (UInt8.toNat_inj.1 (by omega)) h1
/-- Is a pair of texts ahead of another one? -/
def lp (a b c d : ByteArray) : Bool := lessL (tx a) (tx c) || (decide (a = c) && lessL (tx b) (tx d))
theorem lp_irr (a b : ByteArray) : lp a b a b = false := by simp [lp, lessL_irr]
theorem lp_iff {a b c d : ByteArray} : lp a b c d = true ↔ lessL (tx a) (tx c) = true ∨ a = c ∧ lessL (tx b) (tx d) = true := by simp [lp]
theorem lp_trans {a b c d e f : ByteArray} (h : lp a b c d = true) (h' : lp c d e f = true) : lp a b e f = true := by
  rw [lp_iff] at *
  rcases h with h | ⟨rfl, h⟩
  · rcases h' with h' | ⟨rfl, h'⟩
    · exact .inl (lessL_trans h h')
    · exact .inl h
  · rcases h' with h' | ⟨rfl, h'⟩
    · exact .inl h'
    · exact .inr ⟨rfl, lessL_trans h h'⟩
theorem lp_total {a b c d : ByteArray} (h : lp a b c d = false) (h' : lp c d a b = false) : a = c ∧ b = d := by
  have g : ¬ (lessL (tx a) (tx c) = true ∨ a = c ∧ lessL (tx b) (tx d) = true) := by rw [← lp_iff, h]; simp
  have g' : ¬ (lessL (tx c) (tx a) = true ∨ c = a ∧ lessL (tx d) (tx b) = true) := by rw [← lp_iff, h']; simp
  have h1 : a = c := tx_inj (lessL_total (Bool.eq_false_iff.2 fun e => g (.inl e)) (Bool.eq_false_iff.2 fun e => g' (.inl e)))
  subst h1
  exact ⟨rfl, tx_inj (lessL_total (Bool.eq_false_iff.2 fun e => g (.inr ⟨rfl, e⟩)) (Bool.eq_false_iff.2 fun e => g' (.inr ⟨rfl, e⟩)))⟩
/-- The best merge of words: none, or one that no other is ahead of. -/
def IsBest (ws : List (List ByteArray)) (cs : List Int) (L R : ByteArray) (n : Int) : Prop :=
  (L = ⟨#[]⟩ ∧ R = ⟨#[]⟩ ∧ n = 0 ∧ ∀ c d, wc c d ws cs ≤ 0) ∨ (1 ≤ n ∧ n = wc L R ws cs ∧ ∀ c d, 1 ≤ wc c d ws cs → wc c d ws cs < n ∨ wc c d ws cs = n ∧ lp c d L R = false)
theorem IsBest.le {ws cs L R n} (h : IsBest ws cs L R n) (c d : ByteArray) : wc c d ws cs ≤ n := by
  rcases h with ⟨_, _, rfl, h⟩ | ⟨h1, _, h⟩
  · exact h c d
  · by_cases hp : 1 ≤ wc c d ws cs
    · rcases h c d hp with h | h <;> omega
    · omega
theorem IsBest.same {ws cs L R n L' R' n'} (h : IsBest ws cs L R n) (h' : IsBest ws cs L' R' n') : L = L' ∧ R = R' ∧ n = n' := by
  have e := h.le L' R'
  have e' := h'.le L R
  rcases h with ⟨rfl, rfl, rfl, h⟩ | ⟨h1, h2, h⟩ <;> rcases h' with ⟨rfl, rfl, rfl, h'⟩ | ⟨h1', h2', h'⟩
  · exact ⟨rfl, rfl, rfl⟩
  · have := h L' R'; omega
  · have := h' L R; omega
  · rcases h L' R' (by omega) with g | ⟨g, g1⟩
    · omega
    · rcases h' L R (by omega) with k | ⟨k, k1⟩
      · omega
      · have := lp_total g1 k1
        exact ⟨this.1.symm, this.2.symm, by omega⟩
/-- What is known of the best merge while some pairs have been seen. -/
structure Inv (ws : List (List ByteArray)) (cs : List Int) (seen : List S45) (most : Int) (L R : ByteArray) : Prop where
  sl : L.size ≤ 1000000
  sr : R.size ≤ 1000000
  is : seen = [] ∧ most = 0 ∧ L = ⟨#[]⟩ ∧ R = ⟨#[]⟩ ∨ 1 ≤ most ∧ most = wc L R ws cs
  top : ∀ x ∈ seen, wc x.f0 x.f1 ws cs < most ∨ wc x.f0 x.f1 ws cs = most ∧ lp x.f0 x.f1 L R = false
theorem Inv.new {ws cs seen most L R p q} {n : Int} (h : Inv ws cs seen most L R) (hn : n = wc p q ws cs) (h1 : 1 ≤ n) (hp : p.size ≤ 1000000) (hq : q.size ≤ 1000000) (hb : most < n ∨ n = most ∧ lp p q L R = true) : Inv ws cs (seen ++ [⟨p, q⟩]) n p q := by
  refine ⟨hp, hq, .inr ⟨h1, hn⟩, fun x hx => ?_⟩
  rcases List.mem_append.1 hx with hx | hx
  · rcases h.top x hx with g | ⟨g, g1⟩
    · exact .inl (by omega)
    · rcases hb with hb | ⟨hb, hb1⟩
      · exact .inl (by omega)
      · refine .inr ⟨by omega, Bool.eq_false_iff.2 fun e => ?_⟩
        rw [lp_trans e hb1] at g1
        cases g1
  · rw [List.mem_singleton.1 hx]
    exact .inr ⟨hn.symm, lp_irr p q⟩
theorem Inv.old {ws cs seen most L R p q} {n : Int} (h : Inv ws cs seen most L R) (hn : n = wc p q ws cs) (h1 : 1 ≤ n) (hb : ¬ (most < n ∨ n = most ∧ lp p q L R = true)) : Inv ws cs (seen ++ [⟨p, q⟩]) most L R := by
  have h2 : ¬ most < n := fun e => hb (.inl e)
  refine ⟨h.sl, h.sr, .inr ?_, fun x hx => ?_⟩
  · rcases h.is with ⟨_, g, _⟩ | g
    · omega
    · exact g
  · rcases List.mem_append.1 hx with hx | hx
    · exact h.top x hx
    · rw [List.mem_singleton.1 hx]
      show wc p q ws cs < most ∨ wc p q ws cs = most ∧ lp p q L R = false
      by_cases e : n = most
      · exact .inr ⟨by omega, Bool.eq_false_iff.2 fun e1 => hb (.inr ⟨e, e1⟩)⟩
      · exact .inl (by omega)
/-- The pairs ahead of a place have been seen. -/
def Cov (ws : List (List ByteArray)) (cs : List Int) (seen : List S45) (i j : Nat) : Prop :=
  ∀ (i' : Nat) (w : List ByteArray) (c : Int) (j' : Nat) (p q : ByteArray), ws[i']? = some w → cs[i']? = some c → 1 ≤ c → w[j']? = some p → w[j' + 1]? = some q → (i' < i ∨ i' = i ∧ j' < j) → (⟨p, q⟩ : S45) ∈ seen
theorem Inv.end {ws cs seen most L R} (h : Inv ws cs seen most L R) {i : Nat} (hc : Cov ws cs seen i 0) (hi : ws.length ≤ i ∨ cs.length ≤ i) : IsBest ws cs L R most := by
  have key : ∀ c d, 1 ≤ wc c d ws cs → (⟨c, d⟩ : S45) ∈ seen := fun c d hp => by
    obtain ⟨i', w, n, h1, h2, h3, h4⟩ := wc_pos hp
    obtain ⟨j, h5, h6⟩ := pc_at h4
    have l1 := (List.getElem?_eq_some_iff.1 h1).1
    have l2 := (List.getElem?_eq_some_iff.1 h2).1
    exact hc i' w n j c d h1 h2 h3 h5 h6 (.inl (by omega))
  rcases h.is with ⟨rfl, rfl, rfl, rfl⟩ | ⟨h1, h2⟩
  · refine .inl ⟨rfl, rfl, rfl, fun c d => ?_⟩
    by_cases hp : 1 ≤ wc c d ws cs
    · exact absurd (key c d hp) (by simp)
    · omega
  · exact .inr ⟨h1, h2, fun c d hp => h.top ⟨c, d⟩ (key c d hp)⟩
theorem Cov.mono {ws cs seen i j} {x : S45} (h : Cov ws cs seen i j) : Cov ws cs (seen ++ [x]) i j := fun i' w c j' p q h1 h2 h3 h4 h5 h6 => List.mem_append_left _ (h i' w c j' p q h1 h2 h3 h4 h5 h6)
theorem Cov.step {ws cs seen i j} (h : Cov ws cs seen i j) (hi : i < ws.length) (hj : j + 1 < ws[i].length) (hm : (⟨ws[i][j], ws[i][j + 1]⟩ : S45) ∈ seen) : Cov ws cs seen i (j + 1) := by
  intro i' w c j' p q h1 h2 h3 h4 h5 h6
  by_cases e : i' = i ∧ j' = j
  · obtain ⟨rfl, rfl⟩ := e
    rw [List.getElem?_eq_getElem hi] at h1
    injection h1 with h1
    subst h1
    rw [List.getElem?_eq_getElem (by omega)] at h4
    rw [List.getElem?_eq_getElem hj] at h5
    injection h4 with h4
    injection h5 with h5
    rw [← h4, ← h5]
    exact hm
  · exact h i' w c j' p q h1 h2 h3 h4 h5 (by omega)
theorem Cov.next {ws cs seen i j} (h : Cov ws cs seen i j) (he : ∀ w c, ws[i]? = some w → cs[i]? = some c → 1 ≤ c → w.length ≤ j + 1) : Cov ws cs seen (i + 1) 0 := by
  intro i' w c j' p q h1 h2 h3 h4 h5 h6
  by_cases e : i' = i
  · subst e
    have := he w c h1 h2 h3
    have l := (List.getElem?_eq_some_iff.1 h5).1
    exact h i' w c j' p q h1 h2 h3 h4 h5 (.inr ⟨rfl, by omega⟩)
  · exact h i' w c j' p q h1 h2 h3 h4 h5 (.inl (by omega))
theorem wc_split (a b : ByteArray) : ∀ (i : Nat) (ws : List (List ByteArray)) (cs : List Int), wc a b ws cs = wc a b (ws.take i) (cs.take i) + wc a b (ws.drop i) (cs.drop i)
  | 0, ws, cs => by simp [wc]
  | i + 1, [], cs => by simp [wc]
  | i + 1, w :: ws, [] => by simp [wc]
  | i + 1, w :: ws, c :: cs => by
    rw [List.take_succ_cons, List.take_succ_cons, List.drop_succ_cons, List.drop_succ_cons, wc, wc, wc_split a b i ws cs, Int.add_assoc]
/-- The count of a pair in the words ahead of word i, and in word i's first j pairs. -/
def wcp (ws : List (List ByteArray)) (cs : List Int) (i j : Nat) (a b : ByteArray) : Int := wc a b (ws.take i) (cs.take i) + cs.getD i 0 * (pc a b ((ws.getD i []).take (j + 1)) : Int)
theorem pc_take_one (a b : ByteArray) (w : List ByteArray) : pc a b (w.take 1) = 0 := by
  cases w <;> simp
theorem wcp_start (ws cs) (i : Nat) (a b : ByteArray) : wcp ws cs i 0 a b = wc a b (ws.take i) (cs.take i) := by
  unfold wcp
  rw [show (0 + 1) = 1 from rfl, pc_take_one]
  simp
theorem wcp_zero (ws cs) (a b : ByteArray) : wcp ws cs 0 0 a b = 0 := by rw [wcp_start]; simp [wc]
theorem wcp_end (ws : List (List ByteArray)) (cs) (a b : ByteArray) : wcp ws cs ws.length 0 a b = wc a b ws cs := by
  rw [wcp_start, wc_split a b ws.length ws cs, List.drop_length]
  simp [wc]
theorem pc_take_snoc (a b : ByteArray) : ∀ (w : List ByteArray) (j : Nat) (h : j + 1 < w.length), pc a b (w.take (j + 2)) = pc a b (w.take (j + 1)) + if w[j] = a ∧ w[j + 1] = b then 1 else 0
  | p :: q :: r, 0, _ => by
    rw [List.take_succ_cons, List.take_succ_cons, List.take_zero, pc_two, pc_one]
    have := pc_take_one a b (p :: q :: r)
    simp only [List.getElem_cons_zero, List.getElem_cons_succ, Nat.zero_add, this]
    omega
  | p :: q :: r, j + 1, h => by
    have := pc_take_snoc a b (q :: r) j (by simpa using h)
    rw [List.take_succ_cons, List.take_succ_cons, pc_two, List.take_succ_cons, List.take_succ_cons, pc_two]
    rw [List.take_succ_cons, List.take_succ_cons] at this
    rw [this]
    simp only [List.getElem_cons_succ]
    omega
theorem wcp_step {ws : List (List ByteArray)} {cs : List Int} {i j : Nat} (hi : i < ws.length) (hi' : i < cs.length) (hj : j + 1 < ws[i].length) (a b : ByteArray) :
    wcp ws cs i (j + 1) a b = wcp ws cs i j a b + if ws[i][j] = a ∧ ws[i][j + 1] = b then cs[i] else 0 := by
  unfold wcp
  have e1 : ws.getD i [] = ws[i] := by simp [List.getD, hi]
  have e2 : cs.getD i 0 = cs[i] := by simp [List.getD, hi']
  rw [e1, e2, pc_take_snoc a b ws[i] j hj]
  split
  · rw [Int.natCast_add, Int.mul_add]; simp; omega
  · simp
theorem wcp_next {ws : List (List ByteArray)} {cs : List Int} {i j : Nat} (hi : i < ws.length) (hi' : i < cs.length) (h1 : 1 ≤ cs[i]) (hj : ws[i].length ≤ j + 1) (a b : ByteArray) :
    wcp ws cs (i + 1) 0 a b = wcp ws cs i j a b := by
  rw [wcp_start, wc_split a b i (ws.take (i + 1)) (cs.take (i + 1)), List.take_take, List.take_take]
  unfold wcp
  have e1 : ws.getD i [] = ws[i] := by simp [List.getD, hi]
  have e2 : cs.getD i 0 = cs[i] := by simp [List.getD, hi']
  rw [e1, e2, List.take_of_length_le hj, show min i (i + 1) = i by omega]
  congr 1
  rw [List.drop_take, List.drop_take, show i + 1 - i = 1 by omega, List.drop_eq_getElem_cons hi, List.drop_eq_getElem_cons hi', List.take_succ_cons, List.take_succ_cons, List.take_zero, List.take_zero, wc, wc, if_neg (by omega)]
  · simp
  · simp
theorem wcp_skip {ws : List (List ByteArray)} {cs : List Int} {i : Nat} (hi : i < ws.length) (h : ∀ c, cs[i]? = some c → c < 1) (a b : ByteArray) :
    wcp ws cs (i + 1) 0 a b = wcp ws cs i 0 a b := by
  rw [wcp_start, wcp_start, wc_split a b i (ws.take (i + 1)) (cs.take (i + 1)), List.take_take, List.take_take, show min i (i + 1) = i by omega]
  have : wc a b (List.drop i (ws.take (i + 1))) (List.drop i (cs.take (i + 1))) = 0 := by
    rw [List.drop_take, List.drop_take, show i + 1 - i = 1 by omega, List.drop_eq_getElem_cons hi, List.take_succ_cons, List.take_zero]
    by_cases hc : i < cs.length
    · have := h cs[i] (List.getElem?_eq_getElem hc)
      rw [List.drop_eq_getElem_cons hc, List.take_succ_cons, List.take_zero, wc, if_pos this, wc]
      · rfl
      · simp
    · rw [List.drop_of_length_le (by omega)]
      simp [wc]
  rw [this]
  omega
theorem wcp_bound {ws : List (List ByteArray)} {cs : List Int} {i j : Nat} (hi : i < ws.length) (hi' : i < cs.length) (h1 : 1 ≤ cs[i]) (a b : ByteArray) : 0 ≤ wcp ws cs i j a b ∧ wcp ws cs i j a b ≤ wc a b ws cs := by
  unfold wcp
  have e1 : ws.getD i [] = ws[i] := by simp [List.getD, hi]
  have e2 : cs.getD i 0 = cs[i] := by simp [List.getD, hi']
  rw [e1, e2, wc_split a b i ws cs, List.drop_eq_getElem_cons hi, List.drop_eq_getElem_cons hi', wc, if_neg (by omega)]
  have g1 := wc_nonneg a b (ws.take i) (cs.take i)
  have g2 := wc_nonneg a b (ws.drop (i + 1)) (cs.drop (i + 1))
  have g3 : pc a b (ws[i].take (j + 1)) ≤ pc a b ws[i] := by
    have key : ∀ (w : List ByteArray) (n : Nat), pc a b (w.take n) ≤ pc a b w := by
      intro w
      induction w with
      | nil => intro n; simp
      | cons p r ih =>
        intro n
        cases n with
        | zero => simp
        | succ n =>
          cases r with
          | nil => simp
          | cons q r =>
            cases n with
            | zero => simp
            | succ n =>
              have := ih (n + 1)
              rw [List.take_succ_cons] at this
              rw [List.take_succ_cons, List.take_succ_cons, pc_two, pc_two]
              omega
    exact key _ _
  have g4 : 0 ≤ cs[i] * (pc a b (ws[i].take (j + 1)) : Int) := Int.mul_nonneg (by omega) (by omega)
  have g5 : cs[i] * (pc a b (ws[i].take (j + 1)) : Int) ≤ cs[i] * (pc a b ws[i] : Int) := Int.mul_le_mul_of_nonneg_left (by omega) (by omega)
  exact ⟨by omega, by omega⟩
/-- A map of pairs that holds just the counts that aren't 0. -/
def Holds (m : List ((ByteArray × ByteArray) × Int)) (F : ByteArray → ByteArray → Int) : Prop := ∀ a b, get m (a, b) = if 1 ≤ F a b then some (F a b) else none
theorem Holds.at {m F} (h : Holds m F) {a b : ByteArray} (h0 : 0 ≤ F a b) : (get m (a, b)).getD 0 = F a b := by
  rw [h a b]
  split
  · rfl
  · rw [Option.getD_none]; omega
theorem Holds.same {m F G} (h : Holds m F) (e : ∀ a b, G a b = F a b) : Holds m G := fun a b => by rw [e, h a b]
theorem Holds.put {m F G} (h : Holds m F) {p q : ByteArray} {n : Int} (hn : 1 ≤ n) (hG : ∀ a b, G a b = if p = a ∧ q = b then n else F a b) : Holds (put m (p, q) n) G := fun a b => by
  rw [get_put, hG]
  by_cases e : p = a ∧ q = b
  · rw [if_pos (by rw [e.1, e.2]), if_pos e, if_pos hn]
  · rw [if_neg (fun h => e (by simpa using h)), if_neg e, h a b]
theorem Holds.nil : Holds [] (fun _ _ => 0) := fun a b => rfl
theorem wc_sizes {ws cs} {M : Nat} (hz : ∀ w ∈ ws, ∀ s ∈ w, s.size ≤ M) {p q : ByteArray} (h : 1 ≤ wc p q ws cs) : p.size ≤ M ∧ q.size ≤ M := by
  obtain ⟨i, w, c, h1, _, _, h4⟩ := wc_pos h
  obtain ⟨j, h5, h6⟩ := pc_at h4
  have hw := List.mem_of_getElem? h1
  exact ⟨hz w hw p (List.mem_of_getElem? h5), hz w hw q (List.mem_of_getElem? h6)⟩
/-- While the map is ranged over: the best of what has come. -/
structure Look (ws : List (List ByteArray)) (cs : List Int) (m todo : List ((ByteArray × ByteArray) × Int)) (most : Int) (L R : ByteArray) : Prop where
  inv : ∃ seen, Inv ws cs seen most L R ∧ ∀ p ∈ m, p ∈ todo ∨ (⟨p.1.1, p.1.2⟩ : S45) ∈ seen
theorem Look.end {ws cs m most L R} (h : Look ws cs m [] most L R) (hm : Holds m fun a b => wc a b ws cs) : IsBest ws cs L R most := by
  obtain ⟨seen, hi, hs⟩ := h.inv
  have key : ∀ c d, 1 ≤ wc c d ws cs → (⟨c, d⟩ : S45) ∈ seen := fun c d hp => by
    have h1 := hm c d
    rw [if_pos hp] at h1
    rcases hs _ (get_mem h1) with h2 | h2
    · simp at h2
    · exact h2
  rcases hi.is with ⟨rfl, rfl, rfl, rfl⟩ | ⟨h1, h2⟩
  · refine .inl ⟨rfl, rfl, rfl, fun c d => ?_⟩
    by_cases hp : 1 ≤ wc c d ws cs
    · exact absurd (key c d hp) (by simp)
    · omega
  · exact .inr ⟨h1, h2, fun c d hp => hi.top ⟨c, d⟩ (key c d hp)⟩
theorem Look.start (ws cs) (m : List ((ByteArray × ByteArray) × Int)) : Look ws cs m m 0 ⟨#[]⟩ ⟨#[]⟩ := ⟨[], ⟨by decide, by decide, .inl ⟨rfl, rfl, rfl, rfl⟩, by simp⟩, fun p hp => .inl hp⟩
theorem mem_del {κ β : Type} [DecidableEq κ] {m : List (κ × β)} {a : κ} {p : κ × β} (h : p ∈ m) : p.1 = a ∨ p ∈ del m a := by
  by_cases e : p.1 = a
  · exact .inl e
  · exact .inr (List.mem_filter.2 ⟨h, by simpa using e⟩)
theorem Look.new {ws cs m todo most L R p q} {n : Int} (h : Look ws cs m todo most L R) (hn : n = wc p q ws cs) (h1 : 1 ≤ n) (hp : p.size ≤ 1000000) (hq : q.size ≤ 1000000) (hb : most < n ∨ n = most ∧ lp p q L R = true) : Look ws cs m (del todo (p, q)) n p q := by
  obtain ⟨seen, hi, hs⟩ := h.inv
  refine ⟨_, hi.new hn h1 hp hq hb, fun x hx => ?_⟩
  rcases hs x hx with h2 | h2
  · rcases mem_del h2 (a := (p, q)) with e | h3
    · exact .inr (by rw [e]; simp)
    · exact .inl h3
  · exact .inr (List.mem_append_left _ h2)
theorem Look.old {ws cs m todo most L R p q} {n : Int} (h : Look ws cs m todo most L R) (hn : n = wc p q ws cs) (h1 : 1 ≤ n) (hb : ¬ (most < n ∨ n = most ∧ lp p q L R = true)) : Look ws cs m (del todo (p, q)) most L R := by
  obtain ⟨seen, hi, hs⟩ := h.inv
  refine ⟨_, hi.old hn h1 hb, fun x hx => ?_⟩
  rcases hs x hx with h2 | h2
  · rcases mem_del h2 (a := (p, q)) with e | h3
    · exact .inr (by rw [e]; simp)
    · exact .inl h3
  · exact .inr (List.mem_append_left _ h2)
/-! ### the bounds, and the best merge as a function -/
theorem rem_ge : ∀ (l : List (List ByteArray)), ∀ w ∈ l, w.length ≤ rem l := by
  intro l
  induction l with
  | nil => simp
  | cons x l ih =>
    intro w hm
    rw [rem]
    rcases List.mem_cons.1 hm with rfl | hm
    · omega
    · have := ih w hm; omega
def guardB (ws : List (List ByteArray)) (cs : List Int) : Prop := ws.length ≤ 100000 ∧ rem ws ≤ 100000 ∧ (∀ w ∈ ws, ∀ s ∈ w, s.size ≤ 1000000) ∧ (∀ c ∈ cs, c ≤ 9223372036854775807) ∧ tot ws cs ≤ 9223372036854775807
instance (ws : List (List ByteArray)) (cs : List Int) : Decidable (guardB ws cs) := by unfold guardB; infer_instance
/-- The pairs of a word, of all words that count. -/
def prs : List ByteArray → List S45
  | p :: q :: r => ⟨p, q⟩ :: prs (q :: r)
  | _ => []
def cands : List (List ByteArray) → List Int → List S45
  | w :: ws, c :: cs => (if c < 1 then [] else prs w) ++ cands ws cs
  | _, _ => []
theorem prs_pc {a b : ByteArray} : ∀ {w : List ByteArray}, (⟨a, b⟩ : S45) ∈ prs w ↔ 1 ≤ pc a b w
  | [] => by simp [prs]
  | [x] => by simp [prs]
  | p :: q :: r => by
    rw [prs, List.mem_cons, prs_pc, pc_two]
    constructor
    · rintro (h | h)
      · injection h with h1 h2
        rw [if_pos ⟨h1.symm, h2.symm⟩]
        omega
      · omega
    · intro h
      by_cases e : p = a ∧ q = b
      · exact .inl (by rw [e.1, e.2])
      · rw [if_neg e] at h
        exact .inr (by omega)
theorem cands_wc {a b : ByteArray} : ∀ {ws cs}, (⟨a, b⟩ : S45) ∈ cands ws cs ↔ 1 ≤ wc a b ws cs
  | [], _ => by simp [cands, wc]
  | _ :: _, [] => by simp [cands, wc]
  | w :: ws, c :: cs => by
    have h0 := wc_nonneg a b ws cs
    rw [cands, List.mem_append, cands_wc, wc]
    by_cases hc : c < 1
    · rw [if_pos hc, if_pos hc]
      simp
    · rw [if_neg hc, if_neg hc, prs_pc]
      have h1 : 0 ≤ c * (pc a b w : Int) := Int.mul_nonneg (by omega) (by omega)
      constructor
      · rintro (h | h)
        · have : c * 1 ≤ c * (pc a b w : Int) := Int.mul_le_mul_of_nonneg_left (by omega) (by omega)
          omega
        · omega
      · intro h
        by_cases hp : 1 ≤ pc a b w
        · exact .inl hp
        · have : pc a b w = 0 := by omega
          rw [this] at h
          exact .inr (by simpa using h)
def better (ws : List (List ByteArray)) (cs : List Int) (b : ByteArray × ByteArray × Int) (x : S45) : ByteArray × ByteArray × Int :=
  if b.2.2 < wc x.f0 x.f1 ws cs ∨ wc x.f0 x.f1 ws cs = b.2.2 ∧ lp x.f0 x.f1 b.1 b.2.1 = true then (x.f0, x.f1, wc x.f0 x.f1 ws cs) else b
/-- The best merge. -/
def bestS (ws : List (List ByteArray)) (cs : List Int) : ByteArray × ByteArray × Int := (cands ws cs).foldl (better ws cs) (⟨#[]⟩, ⟨#[]⟩, 0)
theorem bestS_is {ws : List (List ByteArray)} {cs : List Int} (hz : ∀ w ∈ ws, ∀ s ∈ w, s.size ≤ 1000000) : IsBest ws cs (bestS ws cs).1 (bestS ws cs).2.1 (bestS ws cs).2.2 := by
  have loop : ∀ (l seen : List S45) (b : ByteArray × ByteArray × Int), cands ws cs = seen ++ l → Inv ws cs seen b.2.2 b.1 b.2.1 → Inv ws cs (cands ws cs) (l.foldl (better ws cs) b).2.2 (l.foldl (better ws cs) b).1 (l.foldl (better ws cs) b).2.1 := by
    intro l
    induction l with
    | nil =>
      intro seen b e h
      rw [e, List.append_nil]
      exact h
    | cons x l ih =>
      intro seen b e h
      have h1 : 1 ≤ wc x.f0 x.f1 ws cs := cands_wc.1 (by rw [e]; simp)
      obtain ⟨hp, hq⟩ := wc_sizes hz h1
      refine ih (seen ++ [x]) _ (by rw [e]; simp) ?_
      unfold better
      split
      · rename_i hb
        exact h.new rfl h1 hp hq hb
      · rename_i hb
        exact h.old rfl h1 hb
  have hI := loop (cands ws cs) [] (⟨#[]⟩, ⟨#[]⟩, 0) rfl ⟨by decide, by decide, .inl ⟨rfl, rfl, rfl, rfl⟩, by simp⟩
  have e : (cands ws cs).foldl (better ws cs) (⟨#[]⟩, ⟨#[]⟩, 0) = bestS ws cs := rfl
  rw [e] at hI
  generalize bestS ws cs = b at hI ⊢
  obtain ⟨L, R, n⟩ := b
  simp only at hI ⊢
  rcases hI.is with ⟨h0, rfl, rfl, rfl⟩ | ⟨h1, h2⟩
  · refine .inl ⟨rfl, rfl, rfl, fun c d => ?_⟩
    by_cases hp : 1 ≤ wc c d ws cs
    · have := cands_wc.2 hp
      rw [h0] at this
      cases this
    · omega
  · exact .inr ⟨h1, h2, fun c d hp => hI.top ⟨c, d⟩ (cands_wc.2 hp)⟩
end Go.Proofs.Ytbfjlfbahjmibaa.Bpe

namespace Go.Proofs.Ytbfjlfbahjmibaa.Pr
open Go.RowKit Go.Proofs.Ytbfjlfbahjmibaa.Bs Go.Proofs.YtbfjlfbahjmibaaW.PrintWords
set_option linter.unusedVariables false
set_option linter.unusedSimpArgs false
/-- Is the pair (a, b) ahead of (c, d)? -/
def ahB (a b c d : ByteArray) : Bool := if a.toList = c.toList then Op.bytesLess b.toList d.toList else Op.bytesLess a.toList c.toList
set_option maxHeartbeats 1000000 in
theorem naive_ahead.calls (a b c d : ByteArray) (w : World) :
    Calls Try.prog 42 #[.agg #[.string a, .string b], .agg #[.string c, .string d]] w fun e w' => e = .returned (.bool (ahB a b c d)) ∧ Below w.heap.size w w' := by
  by_cases h : a.toList = c.toList
  · have h1 : (a.toList == c.toList) = true := by simp [h]
    have H := Lib.hid h
    clear h
    go_enter Try.func42, Try.ntmps42
    go_wp2
    go_ret
    exact ⟨by rw [ahB, if_pos H.out]; rfl, ((Below.refl _ _).alloc (Nat.le_refl _) _).alloc (by simp) _⟩
  · have h1 : (a.toList == c.toList) = false := by simp [h]
    have H := Lib.hid h
    clear h
    go_enter Try.func42, Try.ntmps42
    go_wp2
    go_ret
    exact ⟨by rw [ahB, if_neg H.out]; rfl, ((Below.refl _ _).alloc (Nat.le_refl _) _).alloc (by simp) _⟩
end Go.Proofs.Ytbfjlfbahjmibaa.Pr

namespace Go.Proofs.Ytbfjlfbahjmibaa.Pr
open Go.RowKit Go.Proofs.Ytbfjlfbahjmibaa.Bs Go.Proofs.Ytbfjlfbahjmibaa.Bpe Go.Proofs.YtbfjlfbahjmibaaW.PrintWords Go.Proofs.YtbfjlfbahjmibaaW
set_option linter.unusedVariables false
set_option linter.unusedSimpArgs false
theorem wcp_done {ws : List (List ByteArray)} {cs : List Int} {i : Nat} (h : ws.length ≤ i ∨ cs.length ≤ i) (a b : ByteArray) : wcp ws cs i 0 a b = wc a b ws cs := by
  rw [wcp_start, wc_split a b i ws cs]
  have : wc a b (ws.drop i) (cs.drop i) = 0 := by
    rcases h with h | h
    · rw [List.drop_of_length_le h]; simp [wc]
    · rw [List.drop_of_length_le h]; cases ws.drop i <;> simp [wc]
  omega
set_option maxHeartbeats 2000000 in
set_option maxRecDepth 100000 in
theorem count_walk (A0 : Option Addr) (c0 : Nat) (ws : List (List ByteArray)) (A1 : Option Addr) (c1 : Nat) (cs : List Int) (a b : ByteArray) (w : World) (hr0 : Kd.C (Kd.slice 9 Kd.string) w A0 ws.length ws) (hc0 : ws.length ≤ c0) (hr1 : Kd.C (Kd.int .i64) w A1 cs.length cs) (hc1 : cs.length ≤ c1) (hG : Hid (guardB ws cs)) :
    Calls Try.prog 37 #[.slice A0 ws.length c0, .slice A1 cs.length c1, .agg #[.string a, .string b]] w fun e w' => e = .returned (.int .i64 (wc a b ws cs)) ∧ Below w.heap.size w w' := by
  have HR0 := Lib.hid hr0
  have HR1 := Lib.hid hr1
  clear hr0 hr1
  have hws : ws.length ≤ 100000 := hG.out.1
  go_enter Try.func37, Try.ntmps37
  go_wp2
  go_loopw [7, 8] (fun v7 v8 wr => ∃ (i : Nat), i ≤ ws.length ∧ v8 = .int .i64 i ∧ v7 = .int .i64 (wcp ws cs i 0 a b) ∧ Hid (Below w.heap.size w wr) ∧ Hid (wr.heap[w.heap.size]? = some (.cells #[.string a, .string b] 45 (0, 0)))) (fun _ v8 _ => ws.length - (intOf v8).toNat)
  case atStart => exact ⟨0, Nat.zero_le _, rfl, by rw [wcp_zero], (Below.refl _ _).alloc (Nat.le_refl _) _, heap_new w _⟩
  case round =>
    obtain ⟨i, hi, rfl, rfl, HB, HC⟩ := hrel
    by_cases hlt : i < ws.length
    · by_cases hlc : i < cs.length
      · obtain ⟨ac, eC, hcc⟩ := Kd.at_int HR1.out (i : Int) (by omega) (by omega)
        subst eC
        replace hcc := (HB.out.cell (World.block_lt_of_cell? w _ hcc)).trans hcc
        rw [Int.toNat_natCast, rdI cs i hlc] at hcc
        obtain ⟨c, hc⟩ : ∃ c, c = cs[i] := ⟨_, rfl⟩
        rw [← hc] at hcc
        have HCC := Lib.hid hc
        clear hc
        by_cases hone : c < 1
        · go_wp2
          go_roundw
          case rel => exact ⟨i + 1, by omega, by go_num, by rw [wcp_skip hlt (fun x hx => by rw [List.getElem?_eq_getElem hlc, ← HCC.out] at hx; cases hx; exact hone)], HB, HC⟩
          case measure => simp [intOf]; omega
        · obtain ⟨ad, Aw, cw, eA, hcw, hlw, HW⟩ := at_L4 HR0.out (i : Int) (by omega) (by omega)
          subst eA
          rw [Int.toNat_natCast] at hcw
          obtain ⟨wd, hwd⟩ : ∃ wd, wd = rd_L4 ws (i : Int) := ⟨_, rfl⟩
          rw [← hwd] at hcw hlw HW
          have HWD := Lib.hid (hwd.trans (rdW ws i hlt))
          have HCW0 := Lib.hid hcw
          have hcc0 : w.cell? (ac.add i) = some (.int .i64 c) := by
            obtain ⟨ac', eC', hcc'⟩ := Kd.at_int HR1.out (i : Int) (by omega) (by omega)
            injection eC' with eC'
            subst eC'
            rw [Int.toNat_natCast, rdI cs i hlc, ← HCC.out] at hcc'
            exact hcc'
          have HCC0 := Lib.hid hcc0
          clear hwd hcw hcc0
          have hwl : wd.length ≤ 100000 := by
            rw [HWD.out]
            exact Nat.le_trans (rem_ge _ _ (List.getElem_mem _)) hG.out.2.1
          have hci : 1 ≤ cs[i] := by rw [← HCC.out]; omega
          go_wp2
          clear hcc
          go_loopw [7, 9] (fun v7 v9 wr => ∃ (j : Nat), j ≤ wd.length ∧ v9 = .int .i64 j ∧ v7 = .int .i64 (wcp ws cs i j a b) ∧ Hid (Below w.heap.size w wr) ∧ Hid (wr.heap[w.heap.size]? = some (.cells #[.string a, .string b] 45 (0, 0)))) (fun _ v9 _ => wd.length - (intOf v9).toNat)
          case atStart => exact ⟨0, Nat.zero_le _, rfl, rfl, HB, HC⟩
          case round =>
            obtain ⟨j, hj, rfl, rfl, HB, HC⟩ := hrel
            have hcw := (HB.out.cell (World.block_lt_of_cell? w _ HCW0.out)).trans HCW0.out
            have hcc := (HB.out.cell (World.block_lt_of_cell? w _ HCC0.out)).trans HCC0.out
            have k0 : wr.cell? ⟨w.heap.size, 0, none⟩ = some (.string a) := (Bs.cell_heap HC.out 0).trans rfl
            have k1 : wr.cell? ⟨w.heap.size, 1, none⟩ = some (.string b) := (Bs.cell_heap HC.out 1).trans rfl
            by_cases hj1 : j + 1 < wd.length
            · obtain ⟨aw, eW, hp⟩ := Kd.at_string HW (j : Int) (by omega) (by omega)
              obtain ⟨aw', eW', hq⟩ := Kd.at_string HW ((j + 1 : Nat) : Int) (by omega) (by omega)
              subst eW
              injection eW' with eW'
              subst eW'
              replace hp := (HB.out.cell (World.block_lt_of_cell? w _ hp)).trans hp
              replace hq := (HB.out.cell (World.block_lt_of_cell? w _ hq)).trans hq
              rw [Int.toNat_natCast, rdB wd j (by omega)] at hp
              rw [Int.toNat_natCast, rdB wd (j + 1) hj1] at hq
              simp only [Addr.add, Nat.add_eq_zero_iff, Nat.one_ne_zero, and_false, if_false] at hq
              have hstep := wcp_step hlt hlc (show j + 1 < ws[i].length by rw [← HWD.out]; exact hj1) a b
              have hb1 := wcp_bound (j := j) hlt hlc hci a b
              have hb2 := wcp_bound (j := j + 1) hlt hlc hci a b
              have hwt := wc_le a b ws cs
              have hgt := hG.out.2.2.2.2
              have ep : ws[i][j]'(by rw [← HWD.out]; omega) = wd[j] := by simp only [HWD.out]
              have eq : ws[i][j + 1]'(by rw [← HWD.out]; exact hj1) = wd[j + 1] := by simp only [HWD.out]
              rw [ep, eq, ← HCC.out] at hstep
              obtain ⟨p, hpe⟩ : ∃ p, p = wd[j] := ⟨_, rfl⟩
              obtain ⟨q, hqe⟩ : ∃ q, q = wd[j + 1] := ⟨_, rfl⟩
              rw [← hpe] at hp hstep
              rw [← hqe] at hq hstep
              have i0 : (0 : Int) ≤ (i : Int) := by omega
              have i1 : (i : Int) < (ws.length : Int) := by omega
              have i2 : (0 : Int) ≤ (j : Int) := by omega
              have i3 : (j : Int) < (wd.length : Int) := by omega
              have i4 : (j : Int) + 1 < (wd.length : Int) := by omega
              by_cases ha : p = a
              · have ha1 : (p.toList == a.toList) = true := by simp [ha]
                by_cases hb : q = b
                · have hb1' : (q.toList == b.toList) = true := by simp [hb]
                  rw [if_pos ⟨ha, hb⟩] at hstep
                  have HS := Lib.hid hstep
                  have hsum : wcp ws cs i j a b + c ≤ 9223372036854775807 := by omega
                  have hnn := hb1.1
                  obtain ⟨x, hx⟩ : ∃ x, x = wcp ws cs i j a b := ⟨_, rfl⟩
                  rw [← hx] at hsum hnn ⊢
                  have HX := Lib.hid hx
                  clear hstep hb1 hb2 hwt hgt hx ep eq hpe hqe ha hb
                  go_wp2
                  go_quiet (fail)
                  go_wp2
                  go_roundw
                  case rel => exact ⟨j + 1, by omega, by go_num, by rw [HS.out, HX.out], by apply pw_below_drewN; exact HB.out, HC.out⟩
                  case measure => simp [intOf]; omega
                · have hb1' : (q.toList == b.toList) = false := by rw [beq_eq_false_iff_ne]; exact fun e => hb (list_inj.1 e)
                  rw [if_neg (fun h => hb h.2), Int.add_zero] at hstep
                  have HS := Lib.hid hstep
                  clear hstep hb1 hb2 hwt hgt ep eq hpe hqe ha hb
                  go_wp2
                  go_quiet (fail)
                  go_wp2
                  go_roundw
                  case rel => exact ⟨j + 1, by omega, by go_num, by rw [HS.out], by apply pw_below_drewN; exact HB.out, HC.out⟩
                  case measure => simp [intOf]; omega
              · have ha1 : (p.toList == a.toList) = false := by rw [beq_eq_false_iff_ne]; exact fun e => ha (list_inj.1 e)
                rw [if_neg (fun h => ha h.1), Int.add_zero] at hstep
                have HS := Lib.hid hstep
                clear hstep hb1 hb2 hwt hgt ep eq hpe hqe ha
                go_wp2
                go_quiet (fail)
                go_wp2
                go_roundw
                case rel => exact ⟨j + 1, by omega, by go_num, by rw [HS.out], by apply pw_below_drewN; exact HB.out, HC.out⟩
                case measure => simp [intOf]; omega
            · go_wp2
              go_roundw
              case rel => exact ⟨i + 1, by omega, by go_num, by rw [wcp_next (j := j) hlt hlc hci (by rw [← HWD.out]; omega)], HB, HC⟩
              case measure => simp [intOf]; omega
      · go_wp2
        go_ret
        exact ⟨by rw [wcp_done (.inr (by omega))]; rfl, HB.out⟩
    · go_wp2
      go_ret
      exact ⟨by rw [wcp_done (.inl (by omega))]; rfl, HB.out⟩
theorem s45_eq {x : S45} {p q : ByteArray} (h : (((x.f0).toList) == p.toList && ((x.f1).toList) == q.toList) = true) : x = ⟨p, q⟩ := by
  simp only [Bool.and_eq_true, beq_iff_eq, list_inj] at h
  cases x
  simp only at h
  rw [h.1, h.2]
theorem s45_ne {x : S45} {p q : ByteArray} (h : (((x.f0).toList) == p.toList && ((x.f1).toList) == q.toList) = false) : x ≠ ⟨p, q⟩ := fun e => by
  subst e
  simp at h
theorem rdS (l : List S45) (i : Nat) (h : i < l.length) : rd_T45 l (i : Int) = l[i] := by
  unfold rd_T45
  rw [Int.toNat_natCast]
  simp [h]
theorem eqM (d : Nat) (w : World) (x0 y0 : ByteArray) (x1 y1 : ByteArray) :
    (Op.equalIn (d + 2) 45 (.agg #[.string x0, .string x1]) (.agg #[.string y0, .string y1])).run Try.prog w = .ok (x0.toList == y0.toList && (x1.toList == y1.toList)) w := by
  refine eqA_of Try.underlying45 (by kernel_rfl) ?_
  refine eqf_cons (by rfl) (by go_simp; rfl) (by go_simp; rfl) (by go_simp) ?_
  exact eqf_last (by rfl) (by go_simp; rfl) (by go_simp; rfl) (by go_simp)
theorem infoM : (Try.prog.info? 45).map (fun i => (i.zero, i.size, i.bytes)) = some (some (.agg #[.string ⟨#[]⟩, .string ⟨#[]⟩]), 2, 32) := by kernel_rfl
/-- What holds at the loops' heads: the row of what was seen, the two boxes, and what is known of the best one. -/
structure RB (w : World) (ws : List (List ByteArray)) (cs : List Int) (wr : World) (v : Value) (seen : List S45) (most : Int) (L R : ByteArray) : Prop where
  own : Kd.R k45 45 wr w.heap.size (fun k => k ≠ w.heap.size ∧ k ≠ w.heap.size + 1) v seen
  res : wr.heap[w.heap.size]? = some (.cells #[.string ⟨#[]⟩, .string ⟨#[]⟩] 45 (0, 0))
  box : wr.heap[w.heap.size + 1]? = some (.cells #[.string L, .string R] 45 (0, 0))
  bel : Below w.heap.size w wr
  inv : Inv ws cs seen most L R
section
variable {w wr w' : World} {ws : List (List ByteArray)} {cs : List Int} {v : Value} {seen : List S45} {most : Int} {L R : ByteArray}
theorem RB.below (h : RB w ws cs wr v seen most L R) (hb : Below wr.heap.size wr w') : RB w ws cs w' v seen most L R :=
  ⟨Kd.R_below h.own hb, (hb.block _ (Bs.blk_lt h.res)).trans h.res, (hb.block _ (Bs.blk_lt h.box)).trans h.box, h.bel.trans (hb.mono h.bel.size), h.inv⟩
theorem RB.lt (h : RB w ws cs wr v seen most L R) : w.heap.size + 1 < wr.heap.size := Bs.blk_lt h.box
end
/-- Behind the append: what holds of the world. -/
structure RC (w wr : World) (v : Value) (seen : List S45) (L R : ByteArray) (gm : Nat) (p q : ByteArray) : Prop where
  own : Kd.R k45 45 wr w.heap.size (fun k => k ≠ w.heap.size ∧ k ≠ w.heap.size + 1) v seen
  res : wr.heap[w.heap.size]? = some (.cells #[.string ⟨#[]⟩, .string ⟨#[]⟩] 45 (0, 0))
  box : wr.heap[w.heap.size + 1]? = some (.cells #[.string L, .string R] 45 (0, 0))
  bel : Below w.heap.size w wr
  mm : wr.heap[gm]? = some (.cells #[.string p, .string q] 45 (0, 0))
theorem RC.below {w wr w' : World} {v : Value} {seen : List S45} {L R : ByteArray} {gm : Nat} {p q : ByteArray} (h : RC w wr v seen L R gm p q) (hb : Below wr.heap.size wr w') : RC w w' v seen L R gm p q :=
  ⟨Kd.R_below h.own hb, (hb.block _ (Bs.blk_lt h.res)).trans h.res, (hb.block _ (Bs.blk_lt h.box)).trans h.box, h.bel.trans (hb.mono h.bel.size), (hb.block _ (Bs.blk_lt h.mm)).trans h.mm⟩
theorem RC.same {w wr : World} {ws : List (List ByteArray)} {cs : List Int} {v : Value} {seen : List S45} {most : Int} {L R : ByteArray} {gm : Nat} {p q : ByteArray} (h : RC w wr v seen L R gm p q) (hi : Inv ws cs seen most L R) : RB w ws cs wr v seen most L R := ⟨h.own, h.res, h.box, h.bel, hi⟩
theorem RC.over {w wr : World} {ws : List (List ByteArray)} {cs : List Int} {v : Value} {seen : List S45} {n : Int} {L R : ByteArray} {gm : Nat} {p q : ByteArray} (h : RC w wr v seen L R gm p q) (hi : Inv ws cs seen n p q) :
    RB w ws cs ((wr.setCell ⟨w.heap.size + 1, 0, none⟩ (.string p)).setCell ⟨w.heap.size + 1, 1, none⟩ (.string q)) v seen n p q :=
  ⟨Kd.R_far (p := ⟨w.heap.size + 1, 1, none⟩) (Kd.R_far (p := ⟨w.heap.size + 1, 0, none⟩) h.own (fun _ hk => hk.2) _) (fun _ hk => hk.2) _,
    Bs.heap_far (Bs.heap_far h.res (p := ⟨w.heap.size + 1, 0, none⟩) (by simp) _) (p := ⟨w.heap.size + 1, 1, none⟩) (by simp) _, heap_set (heap_set h.box 0 (.string p)) 1 (.string q),
    (h.bel.setCell (p := ⟨w.heap.size + 1, 0, none⟩) (by simp) _).setCell (p := ⟨w.heap.size + 1, 1, none⟩) (by simp) _, hi⟩
set_option maxHeartbeats 4000000 in
set_option maxRecDepth 100000 in
theorem rbest_walk (A0 : Option Addr) (c0 : Nat) (ws : List (List ByteArray)) (A1 : Option Addr) (c1 : Nat) (cs : List Int) (r1 : ByteArray) (r2 : ByteArray) (r3 : Int) (w : World) (hr0 : Kd.C (Kd.slice 9 Kd.string) w A0 ws.length ws) (hc0 : ws.length ≤ c0) (hr1 : Kd.C (Kd.int .i64) w A1 cs.length cs) (hc1 : cs.length ≤ c1)
    (hG : Hid (guardB ws cs)) (hI : Hid (IsBest ws cs r1 r2 r3)) :
    Calls Try.prog 26 #[.slice A0 ws.length c0, .slice A1 cs.length c1] w fun e w' => e = .returned (.tuple #[.agg #[.string r1, .string r2], .int .i64 r3]) ∧ Below w.heap.size w w' := by
  have HR0 := Lib.hid hr0
  have HR1 := Lib.hid hr1
  clear hr0 hr1
  have hws : ws.length ≤ 100000 := hG.out.1
  have hrm : rem ws ≤ 100000 := hG.out.2.1
  have heq := eqM
  go_enter Try.func26, Try.ntmps26
  go_wp2
  go_loopw [7, 8, 9] (fun v7 v8 v9 wr => ∃ (i : Nat) (seen : List S45) (most : Int) (L R : ByteArray), i ≤ ws.length ∧ v9 = .int .i64 i ∧ v7 = .int .i64 most ∧ RB w ws cs wr v8 seen most L R ∧ Hid (Cov ws cs seen i 0) ∧ seen.length + rem (ws.drop i) ≤ rem ws) (fun _ _ v9 _ => ws.length - (intOf v9).toNat)
  case atStart => exact ⟨0, [], 0, ⟨#[]⟩, ⟨#[]⟩, Nat.zero_le _, rfl, rfl, ⟨Kd.R_nil _ _ _ _ _, Bs.heap_old (Bs.heap_new w _) _, by have := Bs.heap_new (w.alloc (.cells #[.string ⟨#[]⟩, .string ⟨#[]⟩] 45)) (.cells #[.string ⟨#[]⟩, .string ⟨#[]⟩] 45); rw [World.size_alloc] at this; exact this, ((Below.refl _ _).alloc (Nat.le_refl _) _).alloc (by simp) _, ⟨by decide, by decide, .inl ⟨rfl, rfl, rfl, rfl⟩, by simp⟩⟩, fun i' w c j' p q _ _ _ _ _ h => by omega, by simp⟩
  case round =>
    obtain ⟨i, seen, most, L, R, hi, rfl, rfl, HS, HCV, hsl⟩ := hrel
    by_cases hin : i < ws.length ∧ i < cs.length
    · obtain ⟨hlt, hlc⟩ := hin
      have i0 : (0 : Int) ≤ (i : Int) := by omega
      have i1 : (i : Int) < (ws.length : Int) := by omega
      obtain ⟨ac, eC, hcc⟩ := Kd.at_int HR1.out (i : Int) (by omega) (by omega)
      subst eC
      rw [Int.toNat_natCast, rdI cs i hlc] at hcc
      obtain ⟨c, hc⟩ : ∃ c, c = cs[i] := ⟨_, rfl⟩
      rw [← hc] at hcc
      have HCC := Lib.hid hc
      have HCC0 := Lib.hid hcc
      obtain ⟨ad, Aw, cw, eA, hcw, hlw, HW⟩ := at_L4 HR0.out (i : Int) (by omega) (by omega)
      subst eA
      rw [Int.toNat_natCast] at hcw
      obtain ⟨wd, hwd⟩ : ∃ wd, wd = rd_L4 ws (i : Int) := ⟨_, rfl⟩
      rw [← hwd] at hcw hlw HW
      have HWD := Lib.hid (hwd.trans (rdW ws i hlt))
      have HCW0 := Lib.hid hcw
      clear hwd hcw hc hcc
      have hwl : wd.length ≤ 100000 := by
        rw [HWD.out]
        exact Nat.le_trans (rem_ge _ _ (List.getElem_mem _)) hrm
      go_wp2
      go_loopw [7, 8, 10] (fun v7 v8 v10 wr => ∃ (j : Nat) (seen : List S45) (most : Int) (L R : ByteArray), j ≤ wd.length ∧ v10 = .int .i64 j ∧ v7 = .int .i64 most ∧ RB w ws cs wr v8 seen most L R ∧ Hid (Cov ws cs seen i j) ∧ seen.length + rem (ws.drop i) ≤ rem ws + j) (fun _ _ v10 _ => wd.length - (intOf v10).toNat)
      case atStart => exact ⟨0, seen, most, L, R, Nat.zero_le _, rfl, rfl, HS, HCV, by omega⟩
      case round =>
        clear HS HCV hsl
        obtain ⟨j, seen, most, L, R, hj, rfl, rfl, HS, HCV, hsl⟩ := hrel
        have hcw := (HS.bel.cell (World.block_lt_of_cell? w _ HCW0.out)).trans HCW0.out
        have hcc := (HS.bel.cell (World.block_lt_of_cell? w _ HCC0.out)).trans HCC0.out
        by_cases hin2 : j + 1 < wd.length ∧ 1 ≤ c
        · obtain ⟨hj1, hone⟩ := hin2
          obtain ⟨aw, eW, hp⟩ := Kd.at_string HW (j : Int) (by omega) (by omega)
          obtain ⟨aw', eW', hq⟩ := Kd.at_string HW ((j + 1 : Nat) : Int) (by omega) (by omega)
          subst eW
          injection eW' with eW'
          subst eW'
          replace hp := (HS.bel.cell (World.block_lt_of_cell? w _ hp)).trans hp
          replace hq := (HS.bel.cell (World.block_lt_of_cell? w _ hq)).trans hq
          rw [Int.toNat_natCast, rdB wd j (by omega)] at hp
          rw [Int.toNat_natCast, rdB wd (j + 1) hj1] at hq
          simp only [Addr.add, Nat.add_eq_zero_iff, Nat.one_ne_zero, and_false, if_false] at hq
          have hzw : ∀ s ∈ wd, s.size ≤ 1000000 := hG.out.2.2.1 wd (by rw [HWD.out]; exact List.getElem_mem _)
          obtain ⟨p, hpe⟩ : ∃ p, p = wd[j] := ⟨_, rfl⟩
          obtain ⟨q, hqe⟩ : ∃ q, q = wd[j + 1] := ⟨_, rfl⟩
          have hps : p.size ≤ 1000000 := hpe ▸ hzw _ (List.getElem_mem _)
          have hqs : q.size ≤ 1000000 := hqe ▸ hzw _ (List.getElem_mem _)
          rw [← hpe] at hp
          rw [← hqe] at hq
          have g1 : ws[i][j]'(by rw [← HWD.out]; omega) = p := by rw [hpe]; simp only [HWD.out]
          have g2 : ws[i][j + 1]'(by rw [← HWD.out]; exact hj1) = q := by rw [hqe]; simp only [HWD.out]
          have G1 := Lib.hid g1
          have G2 := Lib.hid g2
          clear hpe hqe g1 g2
          have i2 : (0 : Int) ≤ (j : Int) := by omega
          have i3 : (j : Int) < (wd.length : Int) := by omega
          have i4 : (j : Int) + 1 < (wd.length : Int) := by omega
          have hba := (Below.refl wr.heap.size wr).alloc (Nat.le_refl _) (.cells #[.string ⟨#[]⟩, .string ⟨#[]⟩] 45)
          have hcw2 := (hba.cell (World.block_lt_of_cell? wr _ hcw)).trans hcw
          have hp2 := (hba.cell (World.block_lt_of_cell? wr _ hp)).trans hp
          have hq2 := (hba.cell (World.block_lt_of_cell? wr _ hq)).trans hq
          have i5 : IntKind.i64.wrap ((j : Int) + 1) = (j : Int) + 1 := by unfold IntKind.wrap; simp [IntKind.signed, IntKind.bits]; omega
          clear hba
          go_wp2
          go_region
          clear hcw hcc hp hq hcw2 hp2 hq2 i5
          obtain ⟨A8, c8, e8⟩ := Kd.R_slice HS.own
          subst e8
          have hsl2 : seen.length ≤ 1000000 := by omega
          have HLT8 := Lib.hid (Kd.R_lt HS.own)
          have hlt1 := HS.lt
          obtain ⟨gm, hgm⟩ : ∃ gm, gm = wr.heap.size := ⟨_, rfl⟩
          have HGM := Lib.hid hgm
          rw [← hgm] at HLT8 hlt1
          have hW1 : Below wr.heap.size wr (wr.alloc (.cells #[.string p, .string q] 45)).drew := ((Below.refl _ _).alloc (Nat.le_refl _) _).drew
          have HS1 := Lib.hid (HS.below hW1)
          have HM1 := Lib.hid (show (wr.alloc (.cells #[.string p, .string q] 45)).drew.heap[gm]? = some (.cells #[.string p, .string q] 45 (0, 0)) from by rw [hgm]; exact Bs.heap_new wr _)
          clear hW1
          go_wp2
          rw [← hgm]
          clear hgm
          go_loopw [12, 13] (fun v12 v13 wl => ∃ (t : Nat) (old : Bool), t ≤ seen.length ∧ v13 = .int .i64 t ∧ v12 = .bool old ∧ Hid (old = true → (⟨p, q⟩ : S45) ∈ seen) ∧ Hid (old = false → (⟨p, q⟩ : S45) ∉ seen.take t) ∧ RB w ws cs wl (.slice A8 seen.length c8) seen most L R ∧ Hid (wl.heap[gm]? = some (.cells #[.string p, .string q] 45 (0, 0)))) (fun _ v13 _ => seen.length - (intOf v13).toNat)
          case atStart => exact ⟨0, false, Nat.zero_le _, rfl, rfl, (fun h => by cases h), (fun _ => by simp), HS1.out, HM1.out⟩
          case round =>
            clear HS HS1 HM1
            obtain ⟨t, old, ht, rfl, rfl, HO1, HO2, HS, HM⟩ := hrel
            have m0 : wr.cell? ⟨gm, 0, none⟩ = some (.string p) := (Bs.cell_heap HM.out 0).trans rfl
            have m1 : wr.cell? ⟨gm, 1, none⟩ = some (.string q) := (Bs.cell_heap HM.out 1).trans rfl
            cases old with
            | true =>
              have hmem := HO1.out rfl
              have HCV2 := Lib.hid (HCV.out.step hlt (show j + 1 < ws[i].length by rw [← HWD.out]; exact hj1) (by rw [G1.out, G2.out]; exact hmem))
              clear hmem
              by_cases htl : t < seen.length
              all_goals
                go_wp2
                go_roundw
                case rel => exact ⟨j + 1, seen, most, L, R, by omega, by go_num, rfl, HS, HCV2.out, by omega⟩
                case measure => simp [intOf]; omega
            | false =>
              by_cases htl : t < seen.length
              · obtain ⟨as1, eS, hx0, hx1⟩ := at_T45 (Kd.R_reads' HS.own).2.2 (t : Int) (by omega) (by omega)
                subst eS
                rw [Int.toNat_natCast, rdS seen t htl] at hx0 hx1
                obtain ⟨x, hx⟩ : ∃ x, x = seen[t] := ⟨_, rfl⟩
                rw [← hx] at hx0 hx1
                have HX := Lib.hid hx
                clear hx
                have i6 : (0 : Int) ≤ (t : Int) := by omega
                have i7 : (t : Int) < (seen.length : Int) := by omega
                go_wp2
                go_quiet (fail)
                go_wp2
                go_roundw
                case rel => exact ⟨t + 1, (x.f0.toList == p.toList && (x.f1.toList == q.toList)), by omega, by go_num, rfl, fun h => by rw [← s45_eq h, HX.out]; exact List.getElem_mem _, fun h => by
                  rw [List.take_succ_eq_append_getElem htl]
                  intro hm
                  rcases List.mem_append.1 hm with hm | hm
                  · exact HO2.out (by first | exact rfl | trivial) hm
                  · rw [← HX.out] at hm; exact s45_ne h (List.mem_singleton.1 hm).symm, HS.below (by apply pw_below_drewN; exact Below.refl _ _), HM.out⟩
                case measure => simp [intOf]; omega
              · have hnm : (⟨p, q⟩ : S45) ∉ seen := by have := HO2.out (by first | exact rfl | trivial); rwa [List.take_of_length_le (by omega)] at this
                have HNM := Lib.hid hnm
                clear hnm HO1 HO2
                have hBs := HS.bel.size
                have hOwn := Lib.hid HS.own
                have hLt := HS.lt
                go_wp2_with (at_builtin; refine Kd.R_append k45 (w0 := w) w.heap.size rfl (.tmp 79) (.tmp 81) 23 45 (.agg #[.string ⟨#[]⟩, .string ⟨#[]⟩]) 32 rfl Try.underlying23 infoM rfl (by decide) (by omega) (.slice A8 seen.length c8) seen (⟨p, q⟩ : S45) [.string p, .string q] (fun k => k ≠ w.heap.size ∧ k ≠ w.heap.size + 1) (fun _ => False) rfl rfl ?aP (fun _ hk => hk.elim) ?aF ?aO ?aB ?aS ?aL ?_)
                case aP => exact k45_mkM _ _ _ (⟨p, q⟩ : S45)
                case aF => intro k hk; omega
                case aO => exact hOwn.out
                case aB => exact HS.bel
                case aS => exact hBs
                case aL => omega
                intro v8 w5 ho hb hg hat
                have HRC := Lib.hid (RC.mk (gm := gm) (p := p) (q := q) ho ((hg.block _ (Bs.blk_lt HS.res) (Kd.R_away hOwn.out (fun _ hk => hk.1))).trans HS.res) ((hg.block _ (Bs.blk_lt HS.box) (Kd.R_away hOwn.out (fun _ hk => hk.2))).trans HS.box) hb ((hg.block _ (Bs.blk_lt HM.out) (fun e => by have := HLT8.out gm e.symm; omega)).trans HM.out))
                clear ho hb hg hat m0 m1
                have q0 : w5.cell? ⟨gm, 0, none⟩ = some (.string p) := (Bs.cell_heap HRC.out.mm 0).trans rfl
                have q1 : w5.cell? ⟨gm, 1, none⟩ = some (.string q) := (Bs.cell_heap HRC.out.mm 1).trans rfl
                obtain ⟨n, hn⟩ : ∃ n, n = wc p q ws cs := ⟨_, rfl⟩
                have hcnt := fun W (h : Below w.heap.size w W) => count_walk (some ad) c0 ws (some ac) c1 cs p q W (Kd.C_below HR0.out h) hc0 (Kd.C_below HR1.out h) hc1 hG
                rw [← hn] at hcnt
                have HN := Lib.hid hn
                have HCNT := Lib.hid hcnt
                clear hn hcnt
                go_upto_region 18 with (go_at_call 37; refine (HCNT.out _ HRC.out.bel).mono ?_; rintro e w6 ⟨rfl, hb6⟩; have HRC6 := Lib.hid (HRC.out.below hb6); clear hb6)
                have hn1 : 1 ≤ n := by
                  rw [HN.out]
                  exact wc_of i ws[i] cs[i] (List.getElem?_eq_getElem hlt) (List.getElem?_eq_getElem hlc) (by rw [← HCC.out]; exact hone) (pc_of j (by rw [List.getElem?_eq_getElem (by rw [← HWD.out]; omega), G1.out]) (by rw [List.getElem?_eq_getElem (by rw [← HWD.out]; exact hj1), G2.out]))
                have HCV2 := Lib.hid ((HCV.out.mono (x := ⟨p, q⟩)).step hlt (show j + 1 < ws[i].length by rw [← HWD.out]; exact hj1) (by rw [G1.out, G2.out]; simp))
                have hlen2 : (seen ++ [(⟨p, q⟩ : S45)]).length + rem (ws.drop i) ≤ rem ws + (j + 1) := by rw [List.length_append, List.length_singleton]; omega
                have HLEN2 := Lib.hid hlen2
                have HIV := Lib.hid HS.inv
                clear HRC HCNT q0 q1 hlen2 hOwn HS HM
                go_cut [15] (fun v15 wc => v15 = .bool (lp p q L R) ∧ RC w wc v8 (seen ++ [⟨p, q⟩]) L R gm p q)
                case first =>
                  have q0 : w6.cell? ⟨gm, 0, none⟩ = some (.string p) := (Bs.cell_heap HRC6.out.mm 0).trans rfl
                  have q1 : w6.cell? ⟨gm, 1, none⟩ = some (.string q) := (Bs.cell_heap HRC6.out.mm 1).trans rfl
                  have b0 : w6.cell? ⟨w.heap.size + 1, 0, none⟩ = some (.string L) := (Bs.cell_heap HRC6.out.box 0).trans rfl
                  have b1 : w6.cell? ⟨w.heap.size + 1, 1, none⟩ = some (.string R) := (Bs.cell_heap HRC6.out.box 1).trans rfl
                  have hf1 : gluepotref01_Less.f p L = some (lessL (tx p) (tx L)) := by rw [gluepotref01_Less.f, if_pos ⟨hps, HIV.out.sl⟩]; rfl
                  have hf2 : gluepotref01_Less.f q R = some (lessL (tx q) (tx R)) := by rw [gluepotref01_Less.f, if_pos ⟨hqs, HIV.out.sr⟩]; rfl
                  have hl1 := fun W => gluepotref01_Less.calls p L _ W hf1
                  have hl2 := fun W => gluepotref01_Less.calls q R _ W hf2
                  have hlp : lp p q L R = (lessL (tx p) (tx L) || (decide (p = L) && lessL (tx q) (tx R))) := rfl
                  obtain ⟨x1, hx1⟩ : ∃ x, x = lessL (tx p) (tx L) := ⟨_, rfl⟩
                  obtain ⟨x2, hx2⟩ : ∃ x, x = lessL (tx q) (tx R) := ⟨_, rfl⟩
                  obtain ⟨y, hy⟩ : ∃ y, y = lp p q L R := ⟨_, rfl⟩
                  rw [← hx1] at hl1 hlp
                  rw [← hx2] at hl2 hlp
                  rw [← hy] at hlp
                  have HY0 := Lib.hid hy
                  have HL1 := Lib.hid hl1
                  have HL2 := Lib.hid hl2
                  clear hf1 hf2 hl1 hl2 hx1 hx2 hy
                  have hne : ∀ b : Bool, decide (p = L) = b → (p.toList == L.toList) = b := fun b hb => by rw [← hb]; by_cases e : p = L <;> simp [e, list_inj]
                  cases x1 with
                  | true =>
                    have hlp' : y = true := by rw [hlp]; rfl
                    have HLP := Lib.hid hlp'
                    clear hlp hlp' hne
                    go_wp2_with (go_at_call 39; refine (HL1.out _).mono ?_; rintro e w7 ⟨rfl, qn, rfl⟩)
                    go_meet
                    case rel => exact ⟨by rw [← HY0.out, HLP.out], HRC6.out.below (pw_below_drewN (Below.refl _ _) _)⟩
                  | false =>
                    by_cases he : p = L
                    · have he1 := hne true (by simp [he])
                      have hlp' : y = x2 := by rw [hlp]; simp [he]
                      have HLP := Lib.hid hlp'
                      clear hlp hlp' hne he
                      go_wp2_with (first | (go_at_call 39; ((with_reducible refine (HL1.out _).mono ?_); rintro e w7 ⟨rfl, qn, rfl⟩)) | (go_at_call 39; ((with_reducible refine (HL2.out _).mono ?_); rintro e w8 ⟨rfl, qm, rfl⟩)))
                      go_meet
                      case rel => exact ⟨by rw [← HY0.out, HLP.out], HRC6.out.below (pw_below_drewN (Below.refl _ _) _)⟩
                    · have he1 := hne false (by simp [he])
                      have hlp' : y = false := by rw [hlp]; simp [he]
                      have HLP := Lib.hid hlp'
                      clear hlp hlp' hne he
                      go_wp2_with (go_at_call 39; refine (HL1.out _).mono ?_; rintro e w7 ⟨rfl, qn, rfl⟩)
                      go_meet
                      case rel => exact ⟨by rw [← HY0.out, HLP.out], HRC6.out.below (pw_below_drewN (Below.refl _ _) _)⟩
                case rest =>
                  obtain ⟨rfl, HR7⟩ := hcut
                  clear HRC6
                  have q0 : wc.cell? ⟨gm, 0, none⟩ = some (.string p) := (Bs.cell_heap HR7.mm 0).trans rfl
                  have q1 : wc.cell? ⟨gm, 1, none⟩ = some (.string q) := (Bs.cell_heap HR7.mm 1).trans rfl
                  have b0 : wc.cell? ⟨w.heap.size + 1, 0, none⟩ = some (.string L) := (Bs.cell_heap HR7.box 0).trans rfl
                  have b1 : wc.cell? ⟨w.heap.size + 1, 1, none⟩ = some (.string R) := (Bs.cell_heap HR7.box 1).trans rfl
                  have f0 : wc.frozen? ⟨w.heap.size + 1, 0, none⟩ = false := Bs.free_heap HR7.box 0
                  have f1 : wc.frozen? ⟨w.heap.size + 1, 1, none⟩ = false := Bs.free_heap HR7.box 1
                  obtain ⟨y, hy⟩ : ∃ y, y = lp p q L R := ⟨_, rfl⟩
                  rw [← hy]
                  have HY := Lib.hid hy
                  clear hy
                  by_cases hgt : most < n
                  · have HIN := Lib.hid (HIV.out.new HN.out hn1 hps hqs (.inl hgt))
                    go_wp2
                    go_roundw
                    case rel => exact ⟨j + 1, seen ++ [(⟨p, q⟩ : S45)], n, p, q, by omega, by go_num, rfl, HR7.over HIN.out, HCV2.out, HLEN2.out⟩
                    case measure => simp [intOf]; omega
                  · by_cases heq2 : n = most
                    · cases y with
                      | true =>
                        have HIN := Lib.hid (HIV.out.new HN.out hn1 hps hqs (.inr ⟨heq2, HY.out.symm⟩))
                        have hb2 : (n == most) = true := by simp [heq2]
                        subst heq2
                        go_wp2
                        go_roundw
                        case rel => exact ⟨j + 1, seen ++ [(⟨p, q⟩ : S45)], n, p, q, by omega, by go_num, rfl, HR7.over HIN.out, HCV2.out, HLEN2.out⟩
                        case measure => simp [intOf]; omega
                      | false =>
                        have HIN := Lib.hid (HIV.out.old HN.out hn1 (fun h => h.elim hgt (fun h => by rw [← HY.out] at h; cases h.2)))
                        subst heq2
                        go_wp2
                        go_roundw
                        case rel => exact ⟨j + 1, seen ++ [(⟨p, q⟩ : S45)], n, L, R, by omega, by go_num, rfl, HR7.same HIN.out, HCV2.out, HLEN2.out⟩
                        case measure => simp [intOf]; omega
                    · have HIN := Lib.hid (HIV.out.old HN.out hn1 (fun h => h.elim hgt (fun h => heq2 h.1)))
                      have hb2 : (n == most) = false := by simpa using heq2
                      go_wp2
                      go_roundw
                      case rel => exact ⟨j + 1, seen ++ [(⟨p, q⟩ : S45)], most, L, R, by omega, by go_num, rfl, HR7.same HIN.out, HCV2.out, HLEN2.out⟩
                      case measure => simp [intOf]; omega
        · have HCV2 : Hid (Cov ws cs seen (i + 1) 0) := HCV.out.next fun w' c' h1 h2 h3 => by
            rw [List.getElem?_eq_getElem hlt] at h1
            rw [List.getElem?_eq_getElem hlc] at h2
            injection h1 with h1
            injection h2 with h2
            have hcc2 := HCC.out
            rw [h2] at hcc2
            by_cases hq1 : j + 1 < wd.length
            · exact absurd ⟨hq1, by rw [hcc2]; exact h3⟩ hin2
            · rw [← h1, ← HWD.out]; omega
          have hrd := rem_drop ws i hlt
          rw [← HWD.out] at hrd
          by_cases hj1 : j + 1 < wd.length
          · have hone : c < 1 := by
              by_cases h : c < 1
              · exact h
              · exact absurd ⟨hj1, by omega⟩ hin2
            go_wp2
            go_roundw
            case rel => exact ⟨i + 1, seen, most, L, R, by omega, by go_num, rfl, HS, HCV2, by omega⟩
            case measure => simp [intOf]; omega
          · go_wp2
            go_roundw
            case rel => exact ⟨i + 1, seen, most, L, R, by omega, by go_num, rfl, HS, HCV2, by omega⟩
            case measure => simp [intOf]; omega
    · have HEND := Lib.hid ((HS.inv.end HCV.out (by omega)).same hI.out)
      have b0 : wr.cell? ⟨w.heap.size + 1, 0, none⟩ = some (.string L) := (Bs.cell_heap HS.box 0).trans rfl
      have b1 : wr.cell? ⟨w.heap.size + 1, 1, none⟩ = some (.string R) := (Bs.cell_heap HS.box 1).trans rfl
      have d0 : wr.cell? ⟨w.heap.size, 0, none⟩ = some (.string ⟨#[]⟩) := (Bs.cell_heap HS.res 0).trans rfl
      have d1 : wr.cell? ⟨w.heap.size, 1, none⟩ = some (.string ⟨#[]⟩) := (Bs.cell_heap HS.res 1).trans rfl
      have f0 : wr.frozen? ⟨w.heap.size, 0, none⟩ = false := Bs.free_heap HS.res 0
      have f1 : wr.frozen? ⟨w.heap.size, 1, none⟩ = false := Bs.free_heap HS.res 1
      have hB := HS.bel
      by_cases hlt : i < ws.length
      all_goals
        go_wp2
        have h8 := HEND.out
        obtain ⟨rfl, rfl, rfl⟩ := h8
        exact bodyPost_ret (v := .tuple #[.agg #[.string L, .string R], .int .i64 most]) (by simp [results, Try.results26, go_sem, d0, d1]) rfl ⟨rfl, (HS.bel.setCell (p := ⟨w.heap.size, 0, none⟩) (Nat.le_refl _) _).setCell (p := ⟨w.heap.size, 1, none⟩) (Nat.le_refl _) _⟩
/-- How often a pair is there, of words and counts within bounds. -/
def gluepotref16_Count.f (l0 : List (List ByteArray)) (l1 : List Int) (a2_0 : ByteArray) (a2_1 : ByteArray) : Option Int := if guardB l0 l1 then some (wc a2_0 a2_1 l0 l1) else none
theorem gluepotref16_Count.calls (A0 : Option Addr) (c0 : Nat) (l0 : List (List ByteArray)) (A1 : Option Addr) (c1 : Nat) (l1 : List Int) (a2_0 : ByteArray) (a2_1 : ByteArray) (r : Int) (w : World) (hr0 : Kd.C (Kd.slice 9 Kd.string) w A0 l0.length l0) (hc0 : l0.length ≤ c0) (hr1 : Kd.C (Kd.int .i64) w A1 l1.length l1) (hc1 : l1.length ≤ c1) (h : gluepotref16_Count.f l0 l1 a2_0 a2_1 = some r) :
    Calls Try.prog 37 #[.slice A0 l0.length c0, .slice A1 l1.length c1, .agg #[.string a2_0, .string a2_1]] w fun e w' => e = .returned (.int .i64 r) ∧ Below w.heap.size w w' := by
  unfold gluepotref16_Count.f at h
  by_cases hg : guardB l0 l1
  · rw [if_pos hg] at h
    cases h
    exact count_walk A0 c0 l0 A1 c1 l1 a2_0 a2_1 w hr0 hc0 hr1 hc1 (Lib.hid hg)
  · rw [if_neg hg] at h
    cases h
/-- The best merge, of words and counts within bounds. -/
def gluepotref16_Best.f (l0 : List (List ByteArray)) (l1 : List Int) : Option (ByteArray × ByteArray × Int) := if guardB l0 l1 then some (bestS l0 l1) else none
theorem gluepotref16_Best.calls (A0 : Option Addr) (c0 : Nat) (l0 : List (List ByteArray)) (A1 : Option Addr) (c1 : Nat) (l1 : List Int) (r1 : ByteArray) (r2 : ByteArray) (r3 : Int) (w : World) (hr0 : Kd.C (Kd.slice 9 Kd.string) w A0 l0.length l0) (hc0 : l0.length ≤ c0) (hr1 : Kd.C (Kd.int .i64) w A1 l1.length l1) (hc1 : l1.length ≤ c1) (h : gluepotref16_Best.f l0 l1 = some (r1, r2, r3)) :
    Calls Try.prog 26 #[.slice A0 l0.length c0, .slice A1 l1.length c1] w fun e w' => e = .returned (.tuple #[.agg #[.string r1, .string r2], .int .i64 r3]) ∧ Below w.heap.size w w' := by
  unfold gluepotref16_Best.f at h
  by_cases hg : guardB l0 l1
  · rw [if_pos hg] at h
    injection h with h
    have hb := bestS_is (ws := l0) (cs := l1) hg.2.2.1
    rw [h] at hb
    exact rbest_walk A0 c0 l0 A1 c1 l1 r1 r2 r3 w hr0 hc0 hr1 hc1 (Lib.hid hg) (Lib.hid hb)
  · rw [if_neg hg] at h
    cases h
end Go.Proofs.Ytbfjlfbahjmibaa.Pr

namespace Go.Proofs.Ytbfjlfbahjmibaa.Pr
open Go.RowKit Go.Proofs.Ytbfjlfbahjmibaa.Bs Go.Proofs.Ytbfjlfbahjmibaa.Bpe Go.Proofs.Ytbfjlfbahjmibaa.Mp Go.Proofs.YtbfjlfbahjmibaaW.PrintWords
set_option linter.unusedVariables false
set_option linter.unusedSimpArgs false
/-! ### the map -/
theorem laid : laidOutB Try.prog = true := by kernel_rfl
theorem small : Try.prog.types.size + 2 ≤ 10000 := of_decide_eq_true (by kernel_rfl)
/-- map[[2]string]int. -/
def kvP : Kv Try.prog (ByteArray × ByteArray) Int where
  t := 71
  k := 72
  e := 3
  kv p := .agg #[.string p.1, .string p.2]
  vv n := .int .i64 n
  ok p := p.1.size ≤ maxLen ∧ p.2.size ≤ maxLen
  z := 0
  law := Maps.Keyed.of_law (deep_law_gate laid small (of_decide_eq_true (by kernel_rfl)) (by kernel_rfl) (by kernel_rfl))
  ht := Try.underlying71
  inj := fun a c h => by
    obtain ⟨a1, a2⟩ := a
    obtain ⟨c1, c2⟩ := c
    simp at h
    rw [h.1, h.2]
  key := fun a h => by
    obtain ⟨a1, a2⟩ := a
    simp only at h
    have e1 : Try.prog.keyType 72 = true := by kernel_rfl
    have e2 : Try.prog.cellsOf 72 = 2 := by kernel_rfl
    have e3 : Try.prog.cellsOf 9 = 1 := by kernel_rfl
    obtain ⟨f, hf⟩ : ∃ f, Try.prog.types.size = f + 1 := ⟨Try.prog.types.size - 1, by have : 1 ≤ Try.prog.types.size := of_decide_eq_true (by kernel_rfl); omega⟩
    refine ⟨.string (keyBytes [.string a1.data.toList, .string a2.data.toList]), ?_⟩
    simp [keyOf, Try.underlying72, e1, Value.formed, e2, e3, hf, Program.keyLits, Try.underlying9, Value.cells, h.1, h.2, List.range_succ]
  hz := fun w => by kernel_rfl
theorem less_bytes : ∀ (a b : List UInt8), lessL a b = Op.bytesLess a b
  | [], [] => rfl
  | [], _ :: _ => rfl
  | _ :: _, [] => rfl
  | a :: x, b :: y => by
    rw [lessL, Op.bytesLess]
    by_cases h : a = b
    · subst h
      have : ¬ a < a := fun h2 => by have : a.toNat < a.toNat := h2; omega
      simp [this, less_bytes x y]
    · simp [h]
theorem ahB_lp (a b c d : ByteArray) : ahB a b c d = lp a b c d := by
  have e : ∀ s : ByteArray, s.toList = tx s := fun s => ByteArray.toList_eq s
  unfold ahB lp
  simp only [e]
  by_cases h : a = c
  · subst h
    rw [if_pos rfl, lessL_irr, less_bytes]
    simp
  · rw [if_neg (fun e => h (tx_inj e)), less_bytes, decide_eq_false h]
    simp
section
variable {w w4 w5 : World} {b gb : Nat} {m todo : List ((ByteArray × ByteArray) × Int)} {p q L R : ByteArray}
abbrev laidP (w4 : World) (p q : ByteArray) : World := w4.alloc (.cells #[.string p, .string q] 72)
theorem best_rng (h : rng kvP w4 b (gb + 1) m todo) (hb : b ≠ gb) (hg : True) : rng kvP (((laidP w4 p q).setCell ⟨gb, 0, none⟩ (.string p)).setCell ⟨gb, 1, none⟩ (.string q)) b (gb + 1) m todo :=
  ((h.alloc _).set (a := ⟨gb, 0, none⟩) hb (by simp) _).set (a := ⟨gb, 1, none⟩) hb (by simp) _
theorem rng_set2 {W : World} {b : Nat} (h : rng kvP W b (gb + 1) m todo) (hb : b ≠ gb) (u v : Value) : rng kvP ((W.setCell ⟨gb, 0, none⟩ u).setCell ⟨gb, 1, none⟩ v) b (gb + 1) m todo :=
  (h.set (a := ⟨gb, 0, none⟩) hb (by simp) _).set (a := ⟨gb, 1, none⟩) hb (by simp) _
theorem best_on (h : Below w.heap.size w w4) (hb : Below (laidP w4 p q).heap.size (laidP w4 p q) w5) : Below w.heap.size w w5 :=
  (h.alloc h.size _).trans (hb.mono (by have := h.size; simp; omega))
theorem best_keep {g : Nat} {o : Obj} (hb : Below (laidP w4 p q).heap.size (laidP w4 p q) w5) (h : w4.heap[g]? = some o) : w5.heap[g]? = some o := (hb.block g (Bs.blk_lt (heap_old h _))).trans (heap_old h _)
theorem below_set2 {W : World} (h : Below w.heap.size w W) (hg : w.heap.size ≤ gb) (u v : Value) : Below w.heap.size w ((W.setCell ⟨gb, 0, none⟩ u).setCell ⟨gb, 1, none⟩ v) :=
  (h.setCell (p := ⟨gb, 0, none⟩) hg _).setCell (p := ⟨gb, 1, none⟩) hg _
theorem best_below (h : Below w.heap.size w w4) (hg : w.heap.size ≤ gb) : Below w.heap.size w (((laidP w4 p q).setCell ⟨gb, 0, none⟩ (.string p)).setCell ⟨gb, 1, none⟩ (.string q)) :=
  ((h.alloc h.size _).setCell (p := ⟨gb, 0, none⟩) hg _).setCell (p := ⟨gb, 1, none⟩) hg _
theorem best_far {o : Obj} {g : Nat} (h : w4.heap[g]? = some o) (hg : g ≠ gb) : (((laidP w4 p q).setCell ⟨gb, 0, none⟩ (.string p)).setCell ⟨gb, 1, none⟩ (.string q)).heap[g]? = some o :=
  Bs.heap_far (Bs.heap_far (heap_old h _) (p := ⟨gb, 0, none⟩) hg _) (p := ⟨gb, 1, none⟩) hg _
theorem best_near (h : w4.heap[gb]? = some (.cells #[.string L, .string R] 72 (0, 0))) : (((laidP w4 p q).setCell ⟨gb, 0, none⟩ (.string p)).setCell ⟨gb, 1, none⟩ (.string q)).heap[gb]? = some (.cells #[.string p, .string q] 72 (0, 0)) :=
  heap_set (heap_set (heap_old h _) 0 (.string p)) 1 (.string q)
theorem best_cells (hb : Below (laidP w4 p q).heap.size (laidP w4 p q) w5) (h : w4.heap[gb]? = some (.cells #[.string L, .string R] 72 (0, 0))) :
    w5.heap[gb]? = some (.cells #[.string L, .string R] 72 (0, 0)) ∧ w5.cell? ⟨gb, 0, none⟩ = some (.string L) ∧ w5.cell? ⟨gb, 1, none⟩ = some (.string R) ∧ w5.frozen? ⟨gb, 0, none⟩ = false ∧ w5.frozen? ⟨gb, 1, none⟩ = false ∧ w5.cell? ⟨w4.heap.size, 0, none⟩ = some (.string p) ∧ w5.cell? ⟨w4.heap.size, 1, none⟩ = some (.string q) := by
  have h2 := (hb.block w4.heap.size (by simp)).trans (heap_new w4 _)
  have h1 := (hb.block gb (Bs.blk_lt (heap_old h _))).trans (heap_old h _)
  exact ⟨h1, (Bs.cell_heap h1 0).trans rfl, (Bs.cell_heap h1 1).trans rfl, Bs.free_heap h1 0, Bs.free_heap h1 1, (Bs.cell_heap h2 0).trans rfl, (Bs.cell_heap h2 1).trans rfl⟩
end
set_option maxHeartbeats 2000000 in
set_option maxRecDepth 100000 in
theorem best_walk (A0 : Option Addr) (c0 : Nat) (ws : List (List ByteArray)) (A1 : Option Addr) (c1 : Nat) (cs : List Int) (r1 : ByteArray) (r2 : ByteArray) (r3 : Int) (w : World) (hr0 : Kd.C (Kd.slice 9 Kd.string) w A0 ws.length ws) (hc0 : ws.length ≤ c0) (hr1 : Kd.C (Kd.int .i64) w A1 cs.length cs) (hc1 : cs.length ≤ c1)
    (hG : Hid (guardB ws cs)) (hI : Hid (IsBest ws cs r1 r2 r3)) :
    Calls Try.prog 25 #[.slice A0 ws.length c0, .slice A1 cs.length c1] w fun e w' => e = .returned (.tuple #[.agg #[.string r1, .string r2], .int .i64 r3]) ∧ Below w.heap.size w w' := by
  have HR0 := Lib.hid hr0
  have HR1 := Lib.hid hr1
  clear hr0 hr1
  have hws : ws.length ≤ 100000 := hG.out.1
  have hmm := @run_makeMap Try.prog
  go_enter Try.func25, Try.ntmps25
  go_wp2
  go_loopw [17] (fun v17 wr => ∃ (i : Nat) (m : List ((ByteArray × ByteArray) × Int)), i ≤ ws.length ∧ v17 = .int .i64 i ∧ Hid (mp kvP wr (w.heap.size + 1) m) ∧ Hid (Holds m (wcp ws cs i 0)) ∧ m.length + rem (ws.drop i) ≤ rem ws ∧ Hid (Below w.heap.size w wr) ∧ Hid (wr.heap[w.heap.size]? = some (.cells #[.string ⟨#[]⟩, .string ⟨#[]⟩] 45 (0, 0)))) (fun v17 _ => ws.length - (intOf v17).toNat)
  case atStart => exact ⟨0, [], Nat.zero_le _, rfl, by have := mp_made (T := kvP) (w.alloc (Obj.cells #[Value.string ⟨#[]⟩, Value.string ⟨#[]⟩] 45)); rwa [World.size_alloc] at this, Holds.nil.same fun a b => wcp_zero ws cs a b, by simp, ((Below.refl _ _).alloc (Nat.le_refl _) _).alloc (by simp) _, heap_old (heap_new w _) _⟩
  case round =>
    obtain ⟨i, m, hi, rfl, HM, HH, hml, HB, HC⟩ := hrel
    by_cases hlt : i < ws.length
    · obtain ⟨ad, Aw, cw, eA, hcw, hlw, HW⟩ := at_L4 HR0.out (i : Int) (by omega) (by omega)
      subst eA
      replace hcw := (HB.out.cell (World.block_lt_of_cell? w _ hcw)).trans hcw
      rw [Int.toNat_natCast] at hcw
      obtain ⟨wd, hwd⟩ : ∃ wd, wd = rd_L4 ws (i : Int) := ⟨_, rfl⟩
      rw [← hwd] at hcw hlw HW
      have HWD := Lib.hid (hwd.trans (rdW ws i hlt))
      clear hwd
      by_cases hlc : i < cs.length
      · obtain ⟨ac, eC, hcc⟩ := Kd.at_int HR1.out (i : Int) (by omega) (by omega)
        subst eC
        have hcc0 := hcc
        rw [Int.toNat_natCast] at hcc0
        replace hcc := (HB.out.cell (World.block_lt_of_cell? w _ hcc)).trans hcc
        rw [Int.toNat_natCast] at hcc
        obtain ⟨c, hc⟩ : ∃ c, c = rd cs (i : Int) := ⟨_, rfl⟩
        rw [← hc] at hcc hcc0
        have HCC := Lib.hid (hc.trans (rdI cs i hlc))
        clear hc
        by_cases hone : c < 1
        · go_wp2
          go_roundw
          case rel => exact ⟨i + 1, m, by omega, by go_num, HM.out, Holds.same HH.out fun a b => wcp_skip hlt (fun x hx => by rw [List.getElem?_eq_getElem hlc, ← HCC.out] at hx; cases hx; exact hone) a b, by rw [rem_drop ws i hlt] at hml; omega, HB.out, HC.out⟩
          case measure => simp [intOf]; omega
        · have hwl : wd.length ≤ 100000 := by
            rw [HWD.out]
            exact Nat.le_trans (rem_ge _ _ (List.getElem_mem _)) hG.out.2.1
          go_wp2
          go_loopw [36] (fun v36 wr => ∃ (j : Nat) (m : List ((ByteArray × ByteArray) × Int)), j ≤ wd.length ∧ v36 = .int .i64 j ∧ Hid (mp kvP wr (w.heap.size + 1) m) ∧ Hid (Holds m (wcp ws cs i j)) ∧ m.length + rem (ws.drop i) ≤ rem ws + j ∧ Hid (Below w.heap.size w wr) ∧ Hid (wr.heap[w.heap.size]? = some (.cells #[.string ⟨#[]⟩, .string ⟨#[]⟩] 45 (0, 0)))) (fun v36 _ => wd.length - (intOf v36).toNat)
          case atStart => exact ⟨0, m, Nat.zero_le _, rfl, HM, HH, by omega, HB, HC⟩
          case round =>
            have HCW := Lib.hid hcc0
            clear hcw hcc hcc0
            obtain ⟨j, m, hj, rfl, HM, HH, hml, HB, HC⟩ := hrel
            by_cases hj1 : j + 1 < wd.length
            · obtain ⟨aw, eW, hp⟩ := Kd.at_string HW (j : Int) (by omega) (by omega)
              obtain ⟨aw', eW', hq⟩ := Kd.at_string HW ((j + 1 : Nat) : Int) (by omega) (by omega)
              subst eW
              injection eW' with eW'
              subst eW'
              replace hp := (HB.out.cell (World.block_lt_of_cell? w _ hp)).trans hp
              replace hq := (HB.out.cell (World.block_lt_of_cell? w _ hq)).trans hq
              have hcc := (HB.out.cell (World.block_lt_of_cell? w _ HCW.out)).trans HCW.out
              rw [Int.toNat_natCast, rdB wd j (by omega)] at hp
              rw [Int.toNat_natCast, rdB wd (j + 1) hj1] at hq
              have hzw : ∀ s ∈ wd, s.size ≤ 1000000 := hG.out.2.2.1 wd (by rw [HWD.out]; exact List.getElem_mem _)
              obtain ⟨p, hpe⟩ : ∃ p, p = wd[j] := ⟨_, rfl⟩
              obtain ⟨q, hqe⟩ : ∃ q, q = wd[j + 1] := ⟨_, rfl⟩
              have hps : p.size ≤ 1000000 := hpe ▸ hzw _ (List.getElem_mem _)
              have hqs : q.size ≤ 1000000 := hqe ▸ hzw _ (List.getElem_mem _)
              rw [← hpe] at hp
              rw [← hqe] at hq
              have HPE := Lib.hid hpe
              have HQE := Lib.hid hqe
              have hok : kvP.ok (p, q) := ⟨by show p.size ≤ maxLen; unfold maxLen; omega, by show q.size ≤ maxLen; unfold maxLen; omega⟩
              have hci : 1 ≤ cs[i] := by rw [← HCC.out]; omega
              have hbd := wcp_bound (j := j) hlt hlc hci p q
              have hbd2 := wcp_bound (j := j + 1) hlt hlc hci p q
              have hwt := wc_le p q ws cs
              have hgt := hG.out.2.2.2.2
              have hst := wcp_step hlt hlc (by rw [← HWD.out]; exact hj1) p q
              have hn : (Mp.get m (p, q)).getD 0 = wcp ws cs i j p q := Holds.at HH.out hbd.1
              have hlk := HM.out.drew.look hok
              have hrm := hG.out.2.1
              obtain ⟨st, w1, hE, hT1, hL1, hS⟩ := HM.out.drew.entry (by unfold maxLen; omega) hok
              obtain ⟨n, hne⟩ : ∃ n, n = (Mp.get m (p, q)).getD 0 := ⟨_, rfl⟩
              have hnw : n = wcp ws cs i j p q := hne.trans hn
              obtain ⟨w2, hS2, HM2, hT2⟩ := hS (n + c)
              have e1 : (Instr.lookup 71 (.map (some (w.heap.size + 1))) (.agg #[.string p, .string q]) false).run Try.prog wr.drew = .ok (.int .i64 n) wr.drew := by rw [hne]; exact hlk
              have e2 : (Instr.mapEntry 71 (.map (some (w.heap.size + 1))) (.agg #[.string p, .string q])).run Try.prog wr.drew = .ok (.tuple #[.int .i64 n, .int .i64 st]) w1 := by rw [hne]; exact hE
              have e3 : (Instr.lookup 71 (.map (some (w.heap.size + 1))) (.agg #[.string p, .string q]) false).run Try.prog w1 = .ok (.int .i64 n) w1 := by rw [hne]; exact hL1
              have e4 : (Instr.entryStore 71 (.map (some (w.heap.size + 1))) (.int .i64 st) (.int .i64 (n + c))).run Try.prog w1 = .ok () w2 := hS2
              have hn0 : 0 ≤ n := by rw [hnw]; exact hbd.1
              have hnc : n + c ≤ 9223372036854775807 := by
                rw [if_pos ⟨by rw [hpe]; simp only [HWD.out], by rw [hqe]; simp only [HWD.out]⟩, ← HCC.out, ← hnw] at hst
                omega
              have HN := Lib.hid hnw
              simp only [Addr.add, Nat.add_eq_zero_iff, Nat.one_ne_zero, and_false, if_false] at hq
              clear hS2 hE hL1 hlk hne hnw hn hbd hbd2 hwt hst hpe hqe hS hok hgt hrm
              go_wp2
              go_region
              clear hp hq hcc e1 e2 e3 e4
              have hg2 := hT2.grown
              have hB2 : Below w.heap.size w w2 := (HB.out.drew).grown hg2 HB.out.size (fun k e => by cases e; omega)
              have hC2 : w2.heap[w.heap.size]? = some (.cells #[.string ⟨#[]⟩, .string ⟨#[]⟩] 45 (0, 0)) := (hg2.block _ (Bs.blk_lt HC.out) (fun e => by injection e; omega)).trans HC.out
              have hH2 : Holds (Mp.put m (p, q) (n + c)) (wcp ws cs i (j + 1)) := Holds.put HH.out (by omega) fun a b => by
                rw [wcp_step hlt hlc (by rw [← HWD.out]; exact hj1)]
                have g1 : ws[i][j]'(by rw [← HWD.out]; omega) = p := by rw [HPE.out]; simp only [HWD.out]
                have g2 : ws[i][j + 1]'(by rw [← HWD.out]; exact hj1) = q := by rw [HQE.out]; simp only [HWD.out]
                rw [g1, g2]
                by_cases e : p = a ∧ q = b
                · obtain ⟨rfl, rfl⟩ := e
                  rw [if_pos ⟨rfl, rfl⟩, if_pos ⟨rfl, rfl⟩, HN.out, HCC.out]
                · rw [if_neg e, if_neg e, Int.add_zero]
              have hl2 : (Mp.put m (p, q) (n + c)).length + rem (ws.drop i) ≤ rem ws + (j + 1) := by have := put_len_le (m := m) (a := (p, q)) (u := n + c); omega
              have HX := Lib.hid (And.intro HM2 (And.intro hH2 (And.intro hl2 (And.intro hB2 hC2))))
              clear HM2 hT2 hg2 hB2 hC2 hH2 hl2
              go_wp2
              go_roundw
              case rel => exact ⟨j + 1, _, by omega, by go_num, HX.out.1, HX.out.2.1, HX.out.2.2.1, HX.out.2.2.2.1, HX.out.2.2.2.2⟩
              case measure => simp [intOf]; omega
            · go_wp2
              go_roundw
              case rel => exact ⟨i + 1, m, by omega, by go_num, HM.out, Holds.same HH.out fun a b => wcp_next hlt hlc (by rw [← HCC.out]; omega) (by rw [← HWD.out]; omega) a b, by rw [rem_drop ws i hlt, ← HWD.out] at hml; omega, HB.out, HC.out⟩
              case measure => simp [intOf]; omega
      · go_wp2
        go_roundw
        case rel => exact ⟨i + 1, m, by omega, by go_num, HM.out, Holds.same HH.out fun a b => wcp_skip hlt (fun c hc => by rw [List.getElem?_eq_none (by omega)] at hc; cases hc) a b, by rw [rem_drop ws i hlt] at hml; omega, HB.out, HC.out⟩
        case measure => simp [intOf]; omega
    · have hil : i = ws.length := by omega
      subst hil
      have hH2 : Holds m (fun a b => wc a b ws cs) := Holds.same HH.out fun a b => (wcp_end ws cs a b).symm
      have HH2 := Lib.hid hH2
      clear hH2 HH
      have hlm := mp.lt HM.out
      have HB2 := Lib.hid (HB.out.alloc HB.out.size (.cells #[.string ⟨#[]⟩, .string ⟨#[]⟩] 72))
      have HM2 := Lib.hid (HM.out.alloc (.cells #[.string ⟨#[]⟩, .string ⟨#[]⟩] 72))
      have HC2 := Lib.hid (heap_old HC.out (.cells #[.string ⟨#[]⟩, .string ⟨#[]⟩] 72))
      have HD2 := Lib.hid (heap_new wr (.cells #[.string ⟨#[]⟩, .string ⟨#[]⟩] 72))
      go_wp2_with (at_range; refine wpList_range_mp (T := kvP) _ rfl _ 71 rfl rfl rfl HM2.out ?_; intro w3 hr3 hg3 hs3; clear hs3)
      have HR3 := Lib.hid (show rng kvP w3 (w.heap.size + 1) (wr.heap.size + 1) m m by first | exact hr3 | (rw [World.size_alloc] at hr3; exact hr3))
      have HB3 := Lib.hid (HB2.out.grown hg3 HB2.out.size (fun k e => by cases e))
      have HC3 := Lib.hid ((hg3.block _ (Bs.blk_lt HC2.out) (by simp)).trans HC2.out)
      have HD3 := Lib.hid ((hg3.block _ (Bs.blk_lt HD2.out) (by simp)).trans HD2.out)
      have hgb : w.heap.size + 1 < wr.heap.size := hlm
      obtain ⟨gb, hgbe⟩ : ∃ gb, gb = wr.heap.size := ⟨_, rfl⟩
      try rw [World.size_alloc]
      rw [← hgbe]
      rw [← hgbe] at HR3 HD3 hgb
      clear hr3 hg3 hgbe
      try go_frame
      go_loopw [11] (fun v11 wl => ∃ (todo : List ((ByteArray × ByteArray) × Int)) (most : Int) (L R : ByteArray), v11 = .int .i64 most ∧ Hid (rng kvP wl (w.heap.size + 1) (gb + 1) m todo) ∧ Hid (Look ws cs m todo most L R) ∧ Hid (Below w.heap.size w wl) ∧ Hid (wl.heap[w.heap.size]? = some (.cells #[.string ⟨#[]⟩, .string ⟨#[]⟩] 45 (0, 0))) ∧ Hid (wl.heap[gb]? = some (.cells #[.string L, .string R] 72 (0, 0)))) (fun _ wl => wl.rangeLeft (w.heap.size + 1) (gb + 1))
      case atStart => exact ⟨m, 0, ⟨#[]⟩, ⟨#[]⟩, rfl, HR3, Look.start ws cs m, HB3, HC3, HD3⟩
      case round =>
        obtain ⟨todo, most, L, R, rfl, HR, HL, HB, HC, HD⟩ := hrel
        go_wp2_with (at_next; refine wpList_next_mp (T := kvP) _ rfl _ rfl rfl HR.out (fun p => .agg #[.string p.1, .string p.2]) (Value.int .i64) rfl rfl ?_ ?_)
        · intro ht
          have hc0 := HC.out
          have hd0 := HD.out
          have hIB := (Look.end (by have := HL.out; rw [ht] at this; exact this) HH2.out).same hI.out
          have HIB := Lib.hid hIB
          have c0 : wr.cell? ⟨gb, 0, none⟩ = some (.string L) := (Bs.cell_heap hd0 0).trans rfl
          have c1 : wr.cell? ⟨gb, 1, none⟩ = some (.string R) := (Bs.cell_heap hd0 1).trans rfl
          have d0 : wr.cell? ⟨w.heap.size, 0, none⟩ = some (.string ⟨#[]⟩) := (Bs.cell_heap hc0 0).trans rfl
          have d1 : wr.cell? ⟨w.heap.size, 1, none⟩ = some (.string ⟨#[]⟩) := (Bs.cell_heap hc0 1).trans rfl
          have f0 : wr.frozen? ⟨w.heap.size, 0, none⟩ = false := Bs.free_heap hc0 0
          have f1 : wr.frozen? ⟨w.heap.size, 1, none⟩ = false := Bs.free_heap hc0 1
          clear hc0 hd0 hIB ht
          go_wp2
          have h8 := HIB.out
          obtain ⟨rfl, rfl, rfl⟩ := h8
          exact bodyPost_ret (v := .tuple #[.agg #[.string L, .string R], .int .i64 most]) (by simp [results, Try.results25, go_sem, d0, d1]) rfl ⟨rfl, (HB.out.setCell (p := ⟨w.heap.size, 0, none⟩) (Nat.le_refl _) _).setCell (p := ⟨w.heap.size, 1, none⟩) (Nat.le_refl _) _⟩
        · intro p q v w4 hx hr4 hg4 hs4 hen
          clear hs4
          have HR4 := Lib.hid (hr4)
          have HX := Lib.hid hx
          have HB4 := Lib.hid (HB.out.grown hg4 HB.out.size (fun k e => by cases e; omega))
          have HC4 := Lib.hid ((hg4.block _ (Bs.blk_lt HC.out) (fun e => by injection e; omega)).trans HC.out)
          have hd4 := (hg4.block _ (Bs.blk_lt HD.out) (fun e => by injection e; omega)).trans HD.out
          have HD4 := Lib.hid hd4
          have hd5 := heap_old hd4 (.cells #[.string p, .string q] 72)
          have d0 : (w4.alloc (.cells #[.string p, .string q] 72)).cell? ⟨gb, 0, none⟩ = some (.string L) := (Bs.cell_heap hd5 0).trans rfl
          have d1 : (w4.alloc (.cells #[.string p, .string q] 72)).cell? ⟨gb, 1, none⟩ = some (.string R) := (Bs.cell_heap hd5 1).trans rfl
          have f0 : (w4.alloc (.cells #[.string p, .string q] 72)).frozen? ⟨gb, 0, none⟩ = false := Bs.free_heap hd5 0
          have f1 : (w4.alloc (.cells #[.string p, .string q] 72)).frozen? ⟨gb, 1, none⟩ = false := Bs.free_heap hd5 1
          clear hd5
          clear hx hr4 hg4 hd4
          have hmv : Mp.get m (p, q) = some v := mem_get HM.out.nodup (HR.out.sub.subset HX.out)
          have hwv := HH2.out p q
          rw [hmv] at hwv
          have hv1 : 1 ≤ wc p q ws cs := by
            by_cases h : 1 ≤ wc p q ws cs
            · exact h
            · rw [if_neg h] at hwv; cases hwv
          rw [if_pos hv1] at hwv
          injection hwv with hwv
          obtain ⟨hps, hqs⟩ := wc_sizes hG.out.2.2.1 hv1
          have HWV := Lib.hid hwv
          have HV1 := Lib.hid hv1
          have HPS := Lib.hid hps
          have HQS := Lib.hid hqs
          clear hmv hwv hv1 hps hqs
          have hw4 : gb + 1 < w4.heap.size := HR4.out.lt
          have fin : ∀ W : World, Below w4.heap.size w4 W → (∃ m' L' R', Hid (Look ws cs m (del todo (p, q)) m' L' R') ∧ True) → True := fun _ _ _ => trivial
          clear fin
          by_cases h1 : most < v
          · have hL2 := Lib.hid (Look.new HL.out HWV.out (by rw [HWV.out]; exact HV1.out) HPS.out HQS.out (.inl h1))
            go_wp2
            go_roundw
            case rel => exact ⟨del todo (p, q), v, p, q, rfl, best_rng HR4.out (by omega) trivial, hL2.out, best_below HB4.out (by omega), best_far HC4.out (by omega), best_near HD4.out⟩
            case measure => rw [rng.left (best_rng HR4.out (by omega) trivial), rng.left HR.out]; exact list_del_len HX.out
          · by_cases h2 : v = most
            · subst h2
              have hah := ahB_lp p q L R
              obtain ⟨bb, hbb⟩ : ∃ bb, bb = ahB p q L R := ⟨_, rfl⟩
              have hcl := fun W => naive_ahead.calls p q L R W
              rw [← hbb] at hcl hah
              cases bb with
              | true =>
                have hL2 := Lib.hid (Look.new HL.out HWV.out (by rw [HWV.out]; exact HV1.out) HPS.out HQS.out (.inr ⟨rfl, hah.symm⟩))
                clear hah hbb
                go_wp2_with (go_at_call 42; refine (hcl _).mono ?_; rintro e w5 ⟨rfl, hb5⟩; have h5 := best_cells hb5 HD4.out; have HD5 := Lib.hid h5.1; have HB5 := Lib.hid hb5; have g0 := h5.2.1; have g1 := h5.2.2.1; have k0 := h5.2.2.2.1; have k1 := h5.2.2.2.2.1; have j0 := h5.2.2.2.2.2.1; have j1 := h5.2.2.2.2.2.2; clear h5 hb5)
                go_roundw
                case rel => exact ⟨del todo (p, q), v, p, q, rfl, rng_set2 ((HR4.out.alloc _).below HB5.out) (by omega) _ _, hL2.out, below_set2 (best_on HB4.out HB5.out) (by omega) _ _, Bs.heap_far (Bs.heap_far (best_keep HB5.out HC4.out) (p := ⟨gb, 0, none⟩) (by simp; omega) _) (p := ⟨gb, 1, none⟩) (by simp; omega) _, heap_set (heap_set HD5.out 0 (.string p)) 1 (.string q)⟩
                case measure => rw [rng.left (rng_set2 ((HR4.out.alloc _).below HB5.out) (by omega) _ _), rng.left HR.out]; exact list_del_len HX.out
              | false =>
                have hL2 := Lib.hid (Look.old HL.out HWV.out (by rw [HWV.out]; exact HV1.out) (fun h => h.elim (fun h => by omega) (fun h => by rw [← hah] at h; cases h.2)))
                clear hah hbb
                go_wp2_with (go_at_call 42; refine (hcl _).mono ?_; rintro e w5 ⟨rfl, hb5⟩; have HB5 := Lib.hid hb5; clear hb5)
                go_roundw
                case rel => exact ⟨del todo (p, q), v, L, R, rfl, (HR4.out.alloc _).below HB5.out, hL2.out, best_on HB4.out HB5.out, best_keep HB5.out HC4.out, best_keep HB5.out HD4.out⟩
                case measure => rw [rng.left ((HR4.out.alloc _).below HB5.out), rng.left HR.out]; exact list_del_len HX.out
            · have hL2 := Lib.hid (Look.old HL.out HWV.out (by rw [HWV.out]; exact HV1.out) (fun h => h.elim h1 (fun h => h2 h.1)))
              have h3 : (v == most) = false := by simpa using h2
              go_wp2
              go_roundw
              case rel => exact ⟨del todo (p, q), most, L, R, rfl, HR4.out.alloc _, hL2.out, HB4.out.alloc HB4.out.size _, heap_old HC4.out _, heap_old HD4.out _⟩
              case measure => rw [rng.left (HR4.out.alloc _), rng.left HR.out]; exact list_del_len HX.out
/-- The best merge, of words and counts within bounds. -/
def naive_Best.f (l0 : List (List ByteArray)) (l1 : List Int) : Option (ByteArray × ByteArray × Int) := if guardB l0 l1 then some (bestS l0 l1) else none
theorem naive_Best.calls (A0 : Option Addr) (c0 : Nat) (l0 : List (List ByteArray)) (A1 : Option Addr) (c1 : Nat) (l1 : List Int) (r1 : ByteArray) (r2 : ByteArray) (r3 : Int) (w : World) (hr0 : Kd.C (Kd.slice 9 Kd.string) w A0 l0.length l0) (hc0 : l0.length ≤ c0) (hr1 : Kd.C (Kd.int .i64) w A1 l1.length l1) (hc1 : l1.length ≤ c1) (h : naive_Best.f l0 l1 = some (r1, r2, r3)) :
    Calls Try.prog 25 #[.slice A0 l0.length c0, .slice A1 l1.length c1] w fun e w' => e = .returned (.tuple #[.agg #[.string r1, .string r2], .int .i64 r3]) ∧ Below w.heap.size w w' := by
  unfold naive_Best.f at h
  by_cases hg : guardB l0 l1
  · rw [if_pos hg] at h
    injection h with h
    have hb := bestS_is (ws := l0) (cs := l1) hg.2.2.1
    rw [h] at hb
    exact best_walk A0 c0 l0 A1 c1 l1 r1 r2 r3 w hr0 hc0 hr1 hc1 (Lib.hid hg) (Lib.hid hb)
  · rw [if_neg hg] at h
    cases h
end Go.Proofs.Ytbfjlfbahjmibaa.Pr
