/- Maps as claims on the heap: a list of entries; look up, store, delete, range. Slices of things: a list, each element some cells. -/
import Derived.Test.YtnnahljdhdippaaGreatDoorB1
import Derived.Maps.RangeWalk
import Derived.Deep.RegionLaw
namespace Go.Proofs.YtnnahljdhdippaaGreatDoor
open Go.RowKit
open Go.ChangeMaps (setBlock)
open Go.MapKept (Stamped)
open Go.Maps (Keyed)

section
variable {α β : Type}

/-- what a key is: its value, and which may be -/
structure KD (α : Type) where
  kv : α → Value
  ok : α → Prop
  inj : ∀ a b, kv a = kv b → a = b

def MIs (k : KD α) (vv : β → Value) (l : List (α × β)) (es : Array MapEntry) (clock : Nat) : Prop :=
  es.toList.map (fun e => (e.key, e.val)) = l.map (fun p => (k.kv p.1, vv p.2)) ∧ Stamped es clock

/-- block b is a map of just these entries -/
def MAt (k : KD α) (vv : β → Value) (b : Nat) (l : List (α × β)) : HP := fun h => (∀ p ∈ l, k.ok p.1) ∧ ∃ es clock, MIs k vv l es clock ∧ blk b (.map es clock) h

/-- .. and block r is an iterator over it; the keys 'left' are still to come -/
def RAt (k : KD α) (vv : β → Value) (b r : Nat) (l : List (α × β)) (left : List α) : HP := fun h => (∀ p ∈ l, k.ok p.1) ∧ ∃ es clock since seen c0, MIs k vv l es clock ∧
  left.map k.kv = (leftOf es seen).toList.map (·.key) ∧ (∀ x ∈ es.toList, x.born < since) ∧ since ≤ c0 ∧ since ≤ clock ∧ (blk b (.map es clock) * blk r (.mapIter (some b) since seen c0)) h

/-- a map's type -/
structure MTy (P : Program) (t K E : TypeId) (k : KD α) : Prop where
  ht : P.underlying t = some (.map K E)
  law : Keyed P K
  reads : ∀ a, k.ok a → ∃ l, keyOf P K (k.kv a) = some l

variable [DecidableEq α]

def mlook : List (α × β) → α → Option β
  | [], _ => none
  | p :: l, k => if p.1 = k then some p.2 else mlook l k
def mput : List (α × β) → α → β → List (α × β)
  | [], k, v => [(k, v)]
  | p :: l, k, v => if p.1 = k then (k, v) :: l else p :: mput l k v
def mdel : List (α × β) → α → List (α × β)
  | [], _ => []
  | p :: l, k => if p.1 = k then l else p :: mdel l k

theorem mlook_none {k : α} : ∀ {l : List (α × β)}, (∀ p ∈ l, p.1 ≠ k) → mlook l k = none
  | [], _ => rfl
  | p :: l, h => by simp only [mlook, if_neg (h p (by simp))]; exact mlook_none fun q hq => h q (by simp [hq])
theorem mput_new {k : α} {v : β} : ∀ {l : List (α × β)}, (∀ p ∈ l, p.1 ≠ k) → mput l k v = l ++ [(k, v)]
  | [], _ => rfl
  | p :: l, h => by simp only [mput, if_neg (h p (by simp)), List.cons_append]; rw [mput_new fun q hq => h q (by simp [hq])]
theorem mdel_new {k : α} : ∀ {l : List (α × β)}, (∀ p ∈ l, p.1 ≠ k) → mdel l k = l
  | [], _ => rfl
  | p :: l, h => by simp only [mdel, if_neg (h p (by simp))]; rw [mdel_new fun q hq => h q (by simp [hq])]

omit [DecidableEq α] in
theorem key_ne {k : α} {u : β} {j : Nat} {p : α × β} {l : List (α × β)} (hn : ((p :: l).map (·.1)).Nodup) (h : (p :: l)[j + 1]? = some (k, u)) : p.1 ≠ k := by
  simp only [List.map_cons, List.nodup_cons] at hn
  rintro rfl
  exact hn.1 (List.mem_map.2 ⟨_, List.mem_of_getElem? h, rfl⟩)
theorem mlook_at {k : α} {u : β} : ∀ {j : Nat} {l : List (α × β)}, (l.map (·.1)).Nodup → l[j]? = some (k, u) → mlook l k = some u
  | _, [], _, h => by simp at h
  | 0, p :: l, _, h => by simp at h; simp [mlook, h]
  | j + 1, p :: l, hn, h => by
    simp only [mlook, if_neg (key_ne hn h)]
    exact mlook_at (by simp at hn; simpa using hn.2) (by simpa using h)
theorem mput_at {k : α} {u v : β} : ∀ {j : Nat} {l : List (α × β)}, (l.map (·.1)).Nodup → l[j]? = some (k, u) → mput l k v = l.set j (k, v)
  | _, [], _, h => by simp at h
  | 0, p :: l, _, h => by simp at h; simp [mput, h]
  | j + 1, p :: l, hn, h => by
    simp only [mput, if_neg (key_ne hn h), List.set_cons_succ]
    rw [mput_at (by simp at hn; simpa using hn.2) (by simpa using h)]
theorem mdel_at {k : α} {u : β} : ∀ {j : Nat} {l : List (α × β)}, (l.map (·.1)).Nodup → l[j]? = some (k, u) → mdel l k = l.eraseIdx j
  | _, [], _, h => by simp at h
  | 0, p :: l, _, h => by simp at h; simp [mdel, h]
  | j + 1, p :: l, hn, h => by
    simp only [mdel, if_neg (key_ne hn h), List.eraseIdx_cons_succ]
    rw [mdel_at (by simp at hn; simpa using hn.2) (by simpa using h)]

variable {kd : KD α} {vv : β → Value} {l : List (α × β)} {es : Array MapEntry} {clock : Nat}

omit [DecidableEq α] in
theorem MIs.keys (h : MIs kd vv l es clock) : es.toList.map (·.key) = l.map (fun p => kd.kv p.1) := by
  have := congrArg (List.map (·.1)) h.1
  simpa [List.map_map, Function.comp_def] using this
omit [DecidableEq α] in
theorem MIs.nodup (h : MIs kd vv l es clock) : (l.map (·.1)).Nodup := by
  have h1 := h.2.2.2
  rw [h.keys] at h1
  have h2 : (l.map fun p => kd.kv p.1) = (l.map (·.1)).map kd.kv := by simp [List.map_map, Function.comp_def]
  rw [h2] at h1
  exact List.Pairwise.of_map kd.kv (fun a b hne e => hne (congrArg _ e)) h1
omit [DecidableEq α] in
theorem MIs.size (h : MIs kd vv l es clock) : es.size = l.length := by
  have := congrArg List.length h.1
  simpa using this
omit [DecidableEq α] in
theorem MIs.at {j : Nat} {e : MapEntry} (h : MIs kd vv l es clock) (hj : es.toList[j]? = some e) : ∃ p, l[j]? = some p ∧ e.key = kd.kv p.1 ∧ e.val = vv p.2 := by
  have h1 := congrArg (fun l : List (Value × Value) => l[j]?) h.1
  simp only [List.getElem?_map, hj, Option.map_some] at h1
  cases hl : l[j]? with
  | none => rw [hl] at h1; cases h1
  | some p => rw [hl] at h1; simp at h1; exact ⟨p, rfl, h1.1, h1.2⟩
omit [DecidableEq α] in
theorem MIs.apart {k : α} (h : MIs kd vv l es clock) (hk : ∀ e ∈ es.toList, e.key ≠ kd.kv k) : ∀ p ∈ l, p.1 ≠ k := by
  rintro p hp rfl
  have : kd.kv p.1 ∈ es.toList.map (·.key) := by rw [h.keys]; exact List.mem_map.2 ⟨p, hp, rfl⟩
  obtain ⟨e, he, hek⟩ := List.mem_map.1 this
  exact hk e he hek
omit [DecidableEq α] in
theorem MIs.reads {P : Program} {t K E : TypeId} (T : MTy P t K E kd) (h : MIs kd vv l es clock) (hok : ∀ p ∈ l, kd.ok p.1) : ∀ e ∈ es.toList, ∃ x, keyOf P K e.key = some x := by
  intro e he
  have : e.key ∈ es.toList.map (·.key) := List.mem_map.2 ⟨e, he, rfl⟩
  rw [h.keys] at this
  obtain ⟨p, hp, hpe⟩ := List.mem_map.1 this
  rw [← hpe]
  exact T.reads _ (hok p hp)

omit [DecidableEq α] in
/-- which entry bears a key -/
theorem MIs.find {P : Program} {t K E : TypeId} (T : MTy P t K E kd) (h : MIs kd vv l es clock) (hok : ∀ p ∈ l, kd.ok p.1) (k : α) (hk : kd.ok k) (w : World) :
    ((Instr.findKey K (kd.kv k) es.toList).run P w = .ok none w ∧ (∀ e ∈ es.toList, e.key ≠ kd.kv k) ∧ ∀ p ∈ l, p.1 ≠ k) ∨
    ∃ j e v, (Instr.findKey K (kd.kv k) es.toList).run P w = .ok (some (j, e.val)) w ∧ es[j]? = some e ∧ e.key = kd.kv k ∧ e.val = vv v ∧ l[j]? = some (k, v) := by
  obtain ⟨x, hx⟩ := T.reads k hk
  rcases T.law.find w hx es.toList (h.reads T hok) with ⟨h1, h2⟩ | ⟨j, e, h1, h2, h3⟩
  · exact .inl ⟨h1, h2, h.apart h2⟩
  · obtain ⟨p, hp, hk', hv⟩ := h.at h2
    have : p.1 = k := kd.inj _ _ (hk'.symm.trans h3)
    exact .inr ⟨j, e, p.2, h1, by simpa using h2, h3, hv, by rw [hp, ← this]⟩

variable {w0 w : World} {R : HP} {b : Nat}

theorem St.setBlock {o o' : Obj} (h : St w0 w (blk b o * R)) : St w0 (setBlock w b o') (blk b o' * R) :=
  h.swap rfl rfl rfl (by have := h.lt; simp [ChangeMaps.setBlock, this]) (fun k hk _ => by simp [ChangeMaps.setBlock, Ne.symm hk])

omit [DecidableEq α] in
theorem St.map (h : St w0 w (MAt kd vv b l * R)) : (∀ p ∈ l, kd.ok p.1) ∧ ∃ es clock, MIs kd vv l es clock ∧ St w0 w (blk b (.map es clock) * R) := by
  obtain ⟨o, t, u, gg, hg, a, c, d, e, ⟨h1, es, clock, h2, h3⟩, y⟩ := h
  exact ⟨h1, es, clock, h2, o, t, u, gg, hg, a, c, d, e, h3, y⟩
omit [DecidableEq α] in
theorem St.map_mk {es : Array MapEntry} {clock : Nat} (h : St w0 w (blk b (.map es clock) * R)) (hok : ∀ p ∈ l, kd.ok p.1) (hm : MIs kd vv l es clock) : St w0 w (MAt kd vv b l * R) :=
  h.imp fun _ hb => ⟨hok, es, clock, hm, hb⟩
omit [DecidableEq α] in
theorem St.map_nodup (h : St w0 w (MAt kd vv b l * R)) : (l.map (·.1)).Nodup := by
  obtain ⟨_, es, clock, hm, _⟩ := h.map
  exact hm.nodup
omit [DecidableEq α] in
theorem St.map_new (kd : KD α) (vv : β → Value) (h : St w0 w R) : St w0 (w.alloc (.map #[] 0)) (MAt kd vv w.heap.size [] * R) :=
  (h.alloc (.map #[] 0)).map_mk (by simp) ⟨by simp, MapKept.stamped_empty 0⟩

variable {P : Program} {t K E : TypeId}

theorem St.map_look (T : MTy P t K E kd) (h : St w0 w (MAt kd vv b l * R)) (k : α) (hk : kd.ok k) {z : Value} (hz : (zeroValue E).run P w = .ok z w) (c : Bool) :
    (Instr.lookup t (.map (some b)) (kd.kv k) c).run P w = .ok (if c then .tuple #[((mlook l k).map vv).getD z, .bool (mlook l k).isSome] else ((mlook l k).map vv).getD z) w := by
  obtain ⟨hok, es, clock, hm, hs⟩ := h.map
  have hb := hs.heap
  obtain ⟨x, hx⟩ := T.reads k hk
  rcases hm.find T hok k hk w with ⟨h1, h2, h3⟩ | ⟨j, e, v, h1, h2, h3, h4, h5⟩
  · rw [mlook_none h3]
    simp [Instr.lookup, run_underlying T.ht, MapKept.run_getObj_map hb, T.law.check w _ hx, h1, hz, Result.andThen]
  · rw [mlook_at hm.nodup h5]
    simp [Instr.lookup, run_underlying T.ht, MapKept.run_getObj_map hb, T.law.check w _ hx, h1, h4, Result.andThen]

theorem St.map_put (T : MTy P t K E kd) (h : St w0 w (MAt kd vv b l * R)) (k : α) (hk : kd.ok k) (v : β) :
    ∃ w', (Instr.mapUpdate t (.map (some b)) (kd.kv k) (vv v)).run P w = .ok () w' ∧ St w0 w' (MAt kd vv b (mput l k v) * R) := by
  obtain ⟨hok, es, clock, hm, hs⟩ := h.map
  have hb := hs.heap
  obtain ⟨x, hx⟩ := T.reads k hk
  have hok' : ∀ p ∈ mput l k v, kd.ok p.1 := by
    intro p hp
    have : p ∈ l ∨ p = (k, v) := by
      clear hm hok h
      induction l with
      | nil => simp [mput] at hp; exact .inr hp
      | cons q l ih =>
        unfold mput at hp
        split at hp
        · simp at hp; rcases hp with hp | hp
          · exact .inr hp
          · exact .inl (by simp [hp])
        · simp at hp; rcases hp with hp | hp
          · exact .inl (by simp [hp])
          · rcases ih hp with h | h
            · exact .inl (by simp [h])
            · exact .inr h
    rcases this with hp | rfl
    · exact hok p hp
    · exact hk
  rcases hm.find T hok k hk w with ⟨h1, h2, h3⟩ | ⟨j, e, u, h1, h2, h3, h4, h5⟩
  · refine ⟨_, by simp [Instr.mapUpdate, run_underlying T.ht, MapKept.run_getObj_map hb, T.law.check w false hx, h1, MapKept.run_setObj_map _ hb, Result.andThen]; rfl, ?_⟩
    refine (hs.setBlock (o' := .map (es.push ⟨kd.kv k, vv v, clock⟩) (clock + 1))).map_mk hok' ⟨?_, MapKept.stamped_push hm.2 h2⟩
    rw [mput_new h3, Array.toList_push, List.map_append, hm.1]
    simp
  · have h2' : es.toList[j]? = some e := by simpa using h2
    refine ⟨_, by simp [Instr.mapUpdate, run_underlying T.ht, MapKept.run_getObj_map hb, T.law.check w false hx, h1, h2, h3, T.law.stays w hx, MapKept.run_setObj_map _ hb, Result.andThen]; rfl, ?_⟩
    refine (hs.setBlock (o' := .map (es.modify j fun e => { e with key := kd.kv k, val := vv v }) clock)).map_mk hok' ⟨?_, MapKept.stamped_modify hm.2 _ _ (fun _ _ => rfl) (fun e' _ he' => by rw [h2] at he'; cases he'; exact h3.symm)⟩
    rw [mput_at hm.nodup h5, Array.toList_modify, ChangeMaps.modify_eq_set _ _ _ _ h2', List.map_set, hm.1, List.map_set]

theorem mdel_sub {k : α} {p : α × β} : ∀ {l : List (α × β)}, p ∈ mdel l k → p ∈ l
  | q :: l, hp => by
    unfold mdel at hp
    split at hp
    · simp [hp]
    · simp at hp; rcases hp with hp | hp
      · simp [hp]
      · simp [mdel_sub hp]

open Classical in
/-- the entries behind 'delete' -/
theorem MIs.del (T : MTy P t K E kd) (h : MIs kd vv l es clock) (hok : ∀ p ∈ l, kd.ok p.1) (k : α) (hk : kd.ok k) (hb : w.heap[b]? = some (.map es clock)) (ty : TypeId) :
    ∃ es', (Builtin.delete_ #[t, K] ty #[.map (some b), kd.kv k]).run P w = .ok (.tuple #[]) (ChangeMaps.setBlock w b (.map es' clock)) ∧ MIs kd vv (mdel l k) es' clock ∧
      es'.toList = es.toList.filter (fun e => decide (e.key ≠ kd.kv k)) := by
  obtain ⟨x, hx⟩ := T.reads k hk
  rcases h.find T hok k hk w with ⟨h1, h2, h3⟩ | ⟨j, e, u, h1, h2, h3, h4, h5⟩
  · refine ⟨es, by simp [Builtin.delete_, run_underlying T.ht, MapKept.run_getObj_map hb, T.law.check w _ hx, h1, MapKept.run_setObj_map _ hb, Result.andThen, ChangeMaps.setBlock], by rw [mdel_new h3]; exact h, ?_⟩
    rw [eq_comm, List.filter_eq_self]
    exact fun e he => by simpa using h2 e he
  · have h2' : es.toList[j]? = some e := by simpa using h2
    have hjs : j < es.size := (Array.getElem?_eq_some_iff.1 h2).1
    have hsub : (es.eraseIdxIfInBounds j).toList = es.toList.eraseIdx j := by
      unfold Array.eraseIdxIfInBounds
      rw [dif_pos hjs]
      simp
    refine ⟨es.eraseIdxIfInBounds j, by simp [Builtin.delete_, run_underlying T.ht, MapKept.run_getObj_map hb, T.law.check w _ hx, h1, MapKept.run_setObj_map _ hb, Result.andThen, ChangeMaps.setBlock], ⟨?_, MapKept.stamped_erase h.2 j⟩, ?_⟩
    · rw [mdel_at h.nodup h5, hsub, ChangeMaps.map_eraseIdx, h.1, ChangeMaps.map_eraseIdx]
    · rw [hsub]
      have hnk := h.2.2.2
      clear h h1 h4 h5 hsub hjs h2 hb
      revert j
      generalize es.toList = L at *
      induction L with
      | nil => intro j h2'; simp at h2'
      | cons a L ih =>
        intro j h2'
        simp only [List.map_cons, List.nodup_cons] at hnk
        cases j with
        | zero =>
          simp at h2'
          subst h2'
          simp only [List.eraseIdx_cons_zero]
          rw [List.filter_cons_of_neg (by simp [h3])]
          rw [eq_comm, List.filter_eq_self]
          intro y hy
          have : y.key ≠ a.key := fun e => hnk.1 (List.mem_map.2 ⟨y, hy, e⟩)
          simpa [h3] using this
        | succ j =>
          have : a.key ≠ kd.kv k := fun e' => hnk.1 (List.mem_map.2 ⟨e, List.mem_of_getElem? (by simpa using h2'), by rw [h3, e']⟩)
          simp only [List.eraseIdx_cons_succ]
          rw [List.filter_cons_of_pos (by simp [this]), ih hnk.2 j (by simpa using h2')]

theorem St.map_del (T : MTy P t K E kd) (h : St w0 w (MAt kd vv b l * R)) (k : α) (hk : kd.ok k) (ty : TypeId) :
    ∃ w', (Builtin.delete_ #[t, K] ty #[.map (some b), kd.kv k]).run P w = .ok (.tuple #[]) w' ∧ St w0 w' (MAt kd vv b (mdel l k) * R) := by
  obtain ⟨hok, es, clock, hm, hs⟩ := h.map
  obtain ⟨es', hr, hm', _⟩ := hm.del T hok k hk hs.heap ty
  exact ⟨_, hr, (hs.setBlock).map_mk (fun p hp => hok p (mdel_sub hp)) hm'⟩

omit [DecidableEq α] in
theorem St.map_len (ht : P.underlying t = some (.map K E)) (h : St w0 w (MAt kd vv b l * R)) (ty : TypeId) : (Builtin.len_ #[t] ty #[.map (some b)]).run P w = .ok (.int .i64 l.length) w := by
  obtain ⟨hok, es, clock, hm, hs⟩ := h.map
  simp [Builtin.len_, run_underlying ht, MapKept.run_getObj_map hs.heap, goInt, Result.andThen, hm.size]

/-! ### range -/
variable {r : Nat} {left : List α}
omit [DecidableEq α] in
theorem St.rmap (h : St w0 w (RAt kd vv b r l left * R)) : (∀ p ∈ l, kd.ok p.1) ∧ ∃ es clock since seen c0, MIs kd vv l es clock ∧ left.map kd.kv = (leftOf es seen).toList.map (·.key) ∧ (∀ x ∈ es.toList, x.born < since) ∧ since ≤ c0 ∧ since ≤ clock ∧
    St w0 w (blk b (.map es clock) * (blk r (.mapIter (some b) since seen c0) * R)) := by
  obtain ⟨o, t, u, gg, hg, a, c, d, e, ⟨h1, es, clock, since, seen, c0, h2, h3, h4, h5, h6, h7⟩, y⟩ := h
  refine ⟨h1, es, clock, since, seen, c0, h2, h3, h4, h5, h6, ?_⟩
  rw [← star_assoc]
  exact ⟨o, t, u, gg, hg, a, c, d, e, h7, y⟩
omit [DecidableEq α] in
theorem St.rmap_mk {es : Array MapEntry} {clock since c0 : Nat} {seen : Array Nat} (h : St w0 w (blk b (.map es clock) * (blk r (.mapIter (some b) since seen c0) * R))) (hok : ∀ p ∈ l, kd.ok p.1) (hm : MIs kd vv l es clock)
    (h1 : left.map kd.kv = (leftOf es seen).toList.map (·.key)) (h2 : ∀ x ∈ es.toList, x.born < since) (h3 : since ≤ c0) (h4 : since ≤ clock) : St w0 w (RAt kd vv b r l left * R) := by
  rw [← star_assoc] at h
  exact h.imp fun _ hb => ⟨hok, es, clock, since, seen, c0, hm, h1, h2, h3, h4, hb⟩
omit [DecidableEq α] in
/-- the loop is over: the map is there still -/
theorem St.rmap_end (h : St w0 w (RAt kd vv b r l left * R)) : St w0 w (MAt kd vv b l * R) := by
  obtain ⟨hok, es, clock, since, seen, c0, hm, _, _, _, _, hs⟩ := h.rmap
  exact ((hs.eq (star_left_comm _ _ _)).drop).map_mk hok hm
omit [DecidableEq α] in
theorem St.rmap_left (h : St w0 w (RAt kd vv b r l left * R)) : w.rangeLeft b r = left.length := by
  obtain ⟨hok, es, clock, since, seen, c0, hm, h1, _, _, _, hs⟩ := h.rmap
  have e1 := hs.heap
  have e2 := (hs.eq (star_left_comm _ _ _)).heap
  have := congrArg List.length h1
  simp only [List.length_map, Array.length_toList] at this
  simp only [World.rangeLeft, e1, e2]
  exact this.symm

omit [DecidableEq α] in
theorem St.map_range (ht : P.underlying t = some (.map K E)) (h : St w0 w (MAt kd vv b l * R)) :
    ∃ w', (Instr.range t (.map (some b))).run P w = .ok (.pointer (some ⟨w.heap.size, 0, none⟩)) w' ∧ St w0 w' (RAt kd vv b w.heap.size l (l.map (·.1)) * R) := by
  obtain ⟨hok, es, clock, hm, hs⟩ := h.map
  refine ⟨w.alloc (.mapIter (some b) clock #[] clock), ?_, ?_⟩
  · simp [Instr.range, run_underlying ht, MapKept.run_getObj_map hs.heap, Result.andThen]
  · refine ((hs.alloc (.mapIter (some b) clock #[] clock)).eq (star_left_comm _ _ _)).rmap_mk hok hm ?_ hm.2.1 (Nat.le_refl _) (Nat.le_refl _)
    have : leftOf es #[] = es := by simp [leftOf]
    rw [this, hm.keys]
    simp [List.map_map, Function.comp_def]

open Classical in
theorem filter_kv (x : α) : ∀ left : List α, (left.filter (fun y => decide (y ≠ x))).map kd.kv = (left.map kd.kv).filter (fun v => decide (v ≠ kd.kv x))
  | [] => rfl
  | y :: l => by
    by_cases h : y = x
    · subst h
      simpa using filter_kv y l
    · have h' : kd.kv y ≠ kd.kv x := fun e => h (kd.inj _ _ e)
      rw [List.filter_cons_of_pos (by simpa using h), List.map_cons, List.map_cons, List.filter_cons_of_pos (by simpa using h'), filter_kv x l]

omit [DecidableEq α] in
open Classical in
theorem left_push {es : Array MapEntry} {clock : Nat} (h : Stamped es clock) (seen : Array Nat) (e : MapEntry) (he : e ∈ es.toList) :
    (leftOf es (seen.push e.born)).toList.map (·.key) = ((leftOf es seen).toList.map (·.key)).filter (fun v => decide (v ≠ e.key)) := by
  have hk := (MapKept.stamped_iff es clock).1 h
  rw [List.filter_map]
  congr 1
  unfold leftOf
  rw [Array.toList_filter, Array.toList_filter, List.filter_filter]
  refine List.filter_congr fun y hy => ?_
  have : (y.born = e.born) ↔ y.key = e.key := by
    constructor
    · intro hb
      have := hk.2.1
      obtain ⟨i, hi, rfl⟩ := List.getElem_of_mem hy
      obtain ⟨j, hj, rfl⟩ := List.getElem_of_mem he
      have hij : i = j := by
        rcases Nat.lt_trichotomy i j with h' | h' | h'
        · have := (List.pairwise_iff_getElem.1 this) i j (by simpa using hi) (by simpa using hj) h'
          simp at this
          exact absurd hb this
        · exact h'
        · have := (List.pairwise_iff_getElem.1 this) j i (by simpa using hj) (by simpa using hi) h'
          simp at this
          exact absurd hb.symm this
      subst hij
      rfl
    · intro hkk
      rw [entry_eq_of_key hk.2.2 hy he hkk]
  by_cases hb : y.born = e.born
  · simp [hb, this.1 hb]
  · have : y.key ≠ e.key := fun e' => hb (this.2 e')
    simp [hb, this]

open Classical in
theorem St.map_next (h : St w0 w (RAt kd vv b r l left * R)) (ty : TypeId) :
    (left = [] ∧ (Instr.next (.pointer (some ⟨r, 0, none⟩)) false ty).run P w = .ok (.tuple #[.bool false]) w) ∨
    ∃ x v w', x ∈ left ∧ mlook l x = some v ∧ (Instr.next (.pointer (some ⟨r, 0, none⟩)) false ty).run P w = .ok (.tuple #[.bool true, kd.kv x, vv v]) w' ∧
      St w0 w' (RAt kd vv b r l (left.filter (fun y => decide (y ≠ x))) * R) ∧ (Instr.entry (.pointer (some ⟨r, 0, none⟩))).run P w' = .ok (.tuple #[kd.kv x, vv v]) w' := by
  obtain ⟨hok, es, clock, since, seen, c0, hm, hl, hold, hsc, hsl, hs⟩ := h.rmap
  have hb := hs.heap
  have hr := (hs.eq (star_left_comm _ _ _)).heap
  rcases run_next_at w ty r b since c0 seen es clock hr hb hold hsc with ⟨h0, hrun⟩ | ⟨e, he, w1, hw1, hrun⟩
  · refine .inl ⟨?_, hrun⟩
    have := congrArg List.length hl
    simp only [List.length_map, Array.length_toList, h0] at this
    exact List.eq_nil_of_length_eq_zero this
  · right
    have hee : e ∈ es.toList := by
      unfold leftOf at he
      simp at he ⊢
      exact he.1
    obtain ⟨j, hj, hje⟩ := List.getElem_of_mem hee
    obtain ⟨p, hp, hk, hv⟩ := hm.at (show es.toList[j]? = some e by rw [List.getElem?_eq_getElem hj, hje])
    have hx : p.1 ∈ left := by
      have : e.key ∈ left.map kd.kv := by rw [hl]; exact List.mem_map.2 ⟨e, he, rfl⟩
      obtain ⟨y, hy, hye⟩ := List.mem_map.1 this
      rw [hk] at hye
      rwa [← kd.inj _ _ hye]
    have hs1 : St w0 w1 (blk b (.map es clock) * (blk r (.mapIter (some b) since seen c0) * R)) := by
      rcases hw1 with rfl | rfl
      · exact hs
      · exact hs.drew
    have hs2 : St w0 (ChangeMaps.setBlock w1 r (.mapIter (some b) since (seen.push e.born) clock)) (blk b (.map es clock) * (blk r (.mapIter (some b) since (seen.push e.born) clock) * R)) :=
      ((hs1.eq (star_left_comm _ _ _)).setBlock).eq (star_left_comm _ _ _)
    refine ⟨p.1, p.2, _, hx, mlook_at hm.nodup hp, ?_, hs2.rmap_mk hok hm ?_ hold hsl hsl, ?_⟩
    · rw [hrun, hk, hv]
    · rw [left_push hm.2 seen e hee, filter_kv, hl, hk]
    · have := run_entry_at (P := P) _ r b since seen es clock e ((hs2.eq (star_left_comm _ _ _)).heap) hs2.heap hee hm.2.2.1
      rw [this, hk, hv]

open Classical in
theorem St.rmap_del (T : MTy P t K E kd) (h : St w0 w (RAt kd vv b r l left * R)) (k : α) (hk : kd.ok k) (ty : TypeId) :
    ∃ w', (Builtin.delete_ #[t, K] ty #[.map (some b), kd.kv k]).run P w = .ok (.tuple #[]) w' ∧ St w0 w' (RAt kd vv b r (mdel l k) (left.filter (fun y => decide (y ≠ k))) * R) := by
  obtain ⟨hok, es, clock, since, seen, c0, hm, hl, hold, hsc, hsl, hs⟩ := h.rmap
  obtain ⟨es', hr, hm', he⟩ := hm.del T hok k hk hs.heap ty
  refine ⟨_, hr, (hs.setBlock).rmap_mk (fun p hp => hok p (mdel_sub hp)) hm' ?_ (fun x hx => hold x ?_) hsc hsl⟩
  · rw [filter_kv, hl, List.filter_map]
    congr 1
    unfold leftOf
    rw [Array.toList_filter, Array.toList_filter, he, List.filter_filter, List.filter_filter]
    exact List.filter_congr fun y _ => by simp [Bool.and_comm]
  · rw [he] at hx
    exact (List.mem_filter.1 hx).1

/-! ### at the operations -/
variable {ops : Array Oper} {rest : List Oper} {o : Oper} {a : Act} {Q : Exit → Act → World → Prop}

theorem wp_mlook (hg : o.guard = none) (m x : Operand) (t : TypeId) (c : Bool) (hop : o.op = Op.lookup t m x c) {K E : TypeId} {kd : KD α} (T : MTy P t K E kd) {vv : β → Value} {b : Nat} {l : List (α × β)} (h : St w0 w (MAt kd vv b l * R))
    (hm : a.eval m = .map (some b)) (k : α) (hx : a.eval x = kd.kv k) (hk : kd.ok k) {z : Value} (hz : (zeroValue E).run P w = .ok z w) (res : Option β) (hres : mlook l k = res)
    (hK : wpList P ops Q rest (a.put o.dst (if c then .tuple #[(res.map vv).getD z, .bool res.isSome] else (res.map vv).getD z)) w) : wpList P ops Q (o :: rest) a w := by
  refine wpList_plain hg fun K' hK' => ?_
  subst hres
  have hrun := h.map_look T k hk hz c
  unfold Oper.wp
  simp [execOp, hop, hm, hx, hrun, Result.andThen]
  exact hK' _ _ hK

theorem wp_mput (hg : o.guard = none) (m x y : Operand) (t : TypeId) (hop : o.op = Op.mapUpdate t m x y) {K E : TypeId} {kd : KD α} (T : MTy P t K E kd) {vv : β → Value} {b : Nat} {l : List (α × β)} (h : St w0 w (MAt kd vv b l * R))
    (hm : a.eval m = .map (some b)) (k : α) (hx : a.eval x = kd.kv k) (hk : kd.ok k) (v : β) (hv : a.eval y = vv v)
    (hK : ∀ w', St w0 w' (MAt kd vv b (mput l k v) * R) → wpList P ops Q rest (a.put o.dst undef) w') : wpList P ops Q (o :: rest) a w := by
  refine wpList_plain hg fun K' hK' => ?_
  obtain ⟨w', hrun, h'⟩ := h.map_put T k hk v
  unfold Oper.wp
  simp [execOp, hop, hm, hx, hv, hrun, Result.andThen]
  exact hK' _ _ (hK w' h')

theorem wp_mdel (hg : o.guard = none) (m x : Operand) (t K : TypeId) (hop : o.op = Op.call { callee := Callee.builtin Builtin.delete, args := #[m, x], argTypes := #[t, K] }) {E : TypeId} {kd : KD α} (T : MTy P t K E kd) {vv : β → Value} {b : Nat} {l : List (α × β)} (h : St w0 w (MAt kd vv b l * R))
    (hm : a.eval m = .map (some b)) (k : α) (hx : a.eval x = kd.kv k) (hk : kd.ok k)
    (hK : ∀ w', St w0 w' (MAt kd vv b (mdel l k) * R) → wpList P ops Q rest (a.put o.dst (.tuple #[])) w') : wpList P ops Q (o :: rest) a w := by
  refine wpList_plain hg fun K' hK' => ?_
  obtain ⟨w', hrun, h'⟩ := h.map_del T k hk o.type
  unfold Oper.wp
  simp [execOp, hop, resolve, invoke, builtin, hm, hx, hrun, Result.andThen]
  exact hK' _ _ (hK w' h')

theorem wp_mdel_range (hg : o.guard = none) (m x : Operand) (t K : TypeId) (hop : o.op = Op.call { callee := Callee.builtin Builtin.delete, args := #[m, x], argTypes := #[t, K] }) {E : TypeId} {kd : KD α} (T : MTy P t K E kd) {vv : β → Value} {b r : Nat} {l : List (α × β)} {left : List α} (h : St w0 w (RAt kd vv b r l left * R))
    (hm : a.eval m = .map (some b)) (k : α) (hx : a.eval x = kd.kv k) (hk : kd.ok k)
    (hK : ∀ w', St w0 w' (RAt kd vv b r (mdel l k) (left.filter (fun y => decide (y ≠ k))) * R) → wpList P ops Q rest (a.put o.dst (.tuple #[])) w') : wpList P ops Q (o :: rest) a w := by
  refine wpList_plain hg fun K' hK' => ?_
  obtain ⟨w', hrun, h'⟩ := h.rmap_del T k hk o.type
  unfold Oper.wp
  simp [execOp, hop, resolve, invoke, builtin, hm, hx, hrun, Result.andThen]
  exact hK' _ _ (hK w' h')

omit [DecidableEq α] in
theorem wp_mrange (hg : o.guard = none) (m : Operand) (t : TypeId) (hop : o.op = Op.range t m) {K E : TypeId} {kd : KD α} (ht : P.underlying t = some (.map K E)) {vv : β → Value} {b : Nat} {l : List (α × β)} (h : St w0 w (MAt kd vv b l * R))
    (hm : a.eval m = .map (some b))
    (hK : ∀ w' r, St w0 w' (RAt kd vv b r l (l.map (·.1)) * R) → wpList P ops Q rest (a.put o.dst (.pointer (some ⟨r, 0, none⟩))) w') : wpList P ops Q (o :: rest) a w := by
  refine wpList_plain hg fun K' hK' => ?_
  obtain ⟨w', hrun, h'⟩ := h.map_range ht
  unfold Oper.wp
  simp [execOp, hop, hm, hrun, Result.andThen]
  exact hK' _ _ (hK w' _ h')

theorem wp_mnext (hg : o.guard = none) (it : Operand) (hop : o.op = Op.next it false) {kd : KD α} {vv : β → Value} {b r : Nat} {l : List (α × β)} {left : List α} (h : St w0 w (RAt kd vv b r l left * R))
    (hit : a.eval it = .pointer (some ⟨r, 0, none⟩))
    (hDone : left = [] → wpList P ops Q rest (a.put o.dst (.tuple #[.bool false])) w)
    (hMore : ∀ x v w', x ∈ left → mlook l x = some v → St w0 w' (RAt kd vv b r l (left.filter (fun y => decide (y ≠ x))) * R) → (Instr.entry (.pointer (some ⟨r, 0, none⟩))).run P w' = .ok (.tuple #[kd.kv x, vv v]) w' →
      wpList P ops Q rest (a.put o.dst (.tuple #[.bool true, kd.kv x, vv v])) w') : wpList P ops Q (o :: rest) a w := by
  refine wpList_plain hg fun K' hK' => ?_
  unfold Oper.wp
  rcases h.map_next (P := P) o.type with ⟨h0, hrun⟩ | ⟨x, v, w', hx, hv, hrun, h', hen⟩
  · simp [execOp, hop, hit, hrun, Result.andThen]
    exact hK' _ _ (hDone h0)
  · simp [execOp, hop, hit, hrun, Result.andThen]
    exact hK' _ _ (hMore x v w' hx hv h' hen)
end
end Go.Proofs.YtnnahljdhdippaaGreatDoor

namespace Go.Proofs.YtnnahljdhdippaaGreatDoor
open Go.RowKit

/-- v is a slice of the things l; each is enc's cells -/
def LAt {β : Type} (E : TypeId) (sz : Nat) (enc : β → List Value) (v : Value) (l : List β) : HP := Row E sz v l.length (l.flatMap enc)

/-- what an element's type is -/
structure ETy (P : Program) (t E : TypeId) (sz bytes : Nat) {β : Type} (enc : β → List Value) : Prop where
  ht : P.underlying t = some (.slice E)
  info : ∃ z, (P.info? E).map (fun i => (i.zero, i.size, i.bytes)) = some (some z, sz, bytes) ∧ z.cells.size = sz
  len : ∀ b, (enc b).length = sz
  one : ∀ b, ∀ u ∈ enc b, u.oneCell' = true
  pos : 0 < sz
  bpos : 0 < bytes

section
variable {β : Type} {P : Program} {w0 w : World} {R : HP} {t E : TypeId} {sz bytes : Nat} {enc : β → List Value} {v : Value} {l : List β}

theorem encs_len (T : ∀ b, (enc b).length = sz) : ∀ l : List β, (l.flatMap enc).length = l.length * sz
  | [] => by simp
  | b :: l => by rw [List.flatMap_cons, List.length_append, encs_len T l, T b, List.length_cons, Nat.add_mul, Nat.one_mul, Nat.add_comm]

theorem encs_at (T : ∀ b, (enc b).length = sz) : ∀ (l : List β) (i : Nat) (b : β) (j : Nat), l[i]? = some b → j < sz → (l.flatMap enc)[i * sz + j]? = (enc b)[j]?
  | [], _, _, _, h, _ => by simp at h
  | c :: l, 0, b, j, h, hj => by
    simp at h
    subst h
    rw [List.flatMap_cons, Nat.zero_mul, Nat.zero_add, List.getElem?_append_left (by rw [T]; exact hj)]
  | c :: l, i + 1, b, j, h, hj => by
    rw [List.flatMap_cons, List.getElem?_append_right (by rw [T, Nat.add_mul]; omega), T]
    rw [← encs_at T l i b j (by simpa using h) hj]
    congr 1
    rw [Nat.add_mul]
    omega

theorem St.l_nil (E : TypeId) (sz : Nat) (enc : β → List Value) (h : St w0 w R) (a : Option Addr := none) : St w0 w (LAt E sz enc (.slice a 0 0) [] * R) := h.row_nil E sz a

theorem St.l_shape (h : St w0 w (LAt E sz enc v l * R)) : ∃ a cap, v = .slice a l.length cap ∧ l.length ≤ cap ∧ cap ≤ maxLen := h.row_shape

/-- a slice that was just written out -/
theorem St.l_mk {g : Nat} {cs : Array Value} (h : St w0 w (blk g (.cells cs E (0, 0)) * R)) (T : ∀ b, (enc b).length = sz) (l : List β) (n : Nat) (hn : n = l.length) (hc : cs = (l.flatMap enc).toArray) (hm : n ≤ maxLen) : St w0 w (LAt E sz enc (.slice (some ⟨g, 0, none⟩) n n) l * R) := by
  subst hc hn
  have hl := encs_len T l
  refine St.row_mk h hl (Nat.le_refl _) hm (by simp [hl]) (fun j hj => ?_)
  rw [Nat.zero_add, List.getElem?_toArray]

/-- where the slice's cells lie -/
theorem St.l_cells (h : St w0 w (LAt E sz enc v l * R)) (T : ∀ b, (enc b).length = sz) : (l = [] ∧ ∃ a, v = .slice a 0 0) ∨ ∃ g off cap, v = .slice (some ⟨g, off, none⟩) l.length cap ∧ l.length ≤ cap ∧ cap ≤ maxLen ∧
    ∀ i b, l[i]? = some b → ∀ j u, (enc b)[j]? = some u → w.cell? ⟨g, off + i * sz + j, none⟩ = some u := by
  rcases h.row with ⟨a0, hv, h0, _⟩ | ⟨g, off, cap, cur, rfl, h1, h2, h3, h4, hs⟩
  · exact .inl ⟨List.eq_nil_of_length_eq_zero h0, a0, hv⟩
  · refine .inr ⟨g, off, cap, rfl, h1, h2, fun i b hi j u hu => ?_⟩
    have hj : j < sz := by rw [← T b]; exact (List.getElem?_eq_some_iff.1 hu).1
    have hil : i < l.length := (List.getElem?_eq_some_iff.1 hi).1
    have : i * sz + j < l.length * sz := by
      have := Nat.mul_le_mul_right sz (show i + 1 ≤ l.length from hil)
      rw [Nat.add_mul] at this
      omega
    rw [Nat.add_assoc, h.row_cell _ this, encs_at T l i b j hi hj, hu]

theorem new_cells (w : World) (cs : List Value) (t : TypeId) (g : Nat) (hg : g = w.heap.size) (j : Nat) (u : Value) (h : cs[j]? = some u) : (w.alloc (.cells cs.toArray t)).cell? ⟨g, j, none⟩ = some u := by
  subst hg
  simp [h]

/-- 'append(v, x)' -/
theorem wp_append_elem {ops : Array Oper} {rest : List Oper} {o : Oper} {a : Act} {Q : Exit → Act → World → Prop} (hgd : o.guard = none) (s x : Operand)
    (ho : o.op = .call { callee := .builtin .append, args := #[s, x], argTypes := #[t, t] })
    (T : ETy P t E sz bytes enc) (h : St w0 w (LAt E sz enc v l * R)) (b : β)
    (hs : a.eval s = v) (g : Nat) (hx : a.eval x = .slice (some ⟨g, 0, none⟩) 1 1) (hc : ∀ j u, (enc b)[j]? = some u → w.cell? ⟨g, j, none⟩ = some u)
    (hbytes : (l.length + 1) * bytes ≤ 140737488355328)
    (hk : ∀ g off cap w', St w0 w' (LAt E sz enc (.slice (some ⟨g, off, none⟩) (l.length + 1) cap) (l ++ [b]) * R) → wpList P ops Q rest (a.put o.dst (.slice (some ⟨g, off, none⟩) (l.length + 1) cap)) w') : wpList P ops Q (o :: rest) a w := by
  obtain ⟨z, hi, hz⟩ := T.info
  obtain ⟨i0, hi, hz0, hz1, hz2⟩ := info_parts hi
  have hb := T.bpos
  have h63 : l.length + 1 ≤ maxLen := by
    have : (l.length + 1) * 1 ≤ (l.length + 1) * bytes := Nat.mul_le_mul_left _ hb
    unfold maxLen
    omega
  refine wpList_append_row hgd s x t ho h T.ht hi hz0 hz1 hz2 hz T.pos hs ⟨g, 0, none⟩ 1 1 (enc b) hx (by decide) (by rw [T.len, Nat.one_mul]) (fun j u hu => ?_) (T.one b) h63 hbytes (fun g off cap w' h' => hk g off cap w' ?_)
  · rw [add_none, Nat.zero_add]
    exact hc j u hu
  · have e : l.flatMap enc ++ enc b = (l ++ [b]).flatMap enc := by simp
    unfold LAt
    rw [List.length_append, List.length_singleton, ← e]
    exact h'
/-- 'append(v, x...)', x not empty -/
theorem wp_append_l {o : Oper} {a : Act} {K : Act → World → Prop} {Q : Exit → Act → World → Prop} (s x : Operand)
    (ho : o.op = .call { callee := .builtin .append, args := #[s, x], argTypes := #[t, t] })
    (T : ETy P t E sz bytes enc) {v2 : Value} {l2 : List β} (h : St w0 w (LAt E sz enc v l * (LAt E sz enc v2 l2 * R))) (hne : l2 ≠ [])
    (hs : a.eval s = v) (hx : a.eval x = v2) (hbytes : (l.length + l2.length) * bytes ≤ 140737488355328)
    (hk : ∀ g off cap w', St w0 w' (LAt E sz enc (.slice (some ⟨g, off, none⟩) (l.length + l2.length) cap) (l ++ l2) * R) → K (a.put o.dst (.slice (some ⟨g, off, none⟩) (l.length + l2.length) cap)) w') : o.wp P a w K Q := by
  obtain ⟨z, hi, hz⟩ := T.info
  obtain ⟨i0, hi, hz0, hz1, hz2⟩ := info_parts hi
  have hb := T.bpos
  have hm : 0 < l2.length := by cases l2 with | nil => exact absurd rfl hne | cons _ _ => simp
  have h63 : l.length + l2.length ≤ maxLen := by
    have : (l.length + l2.length) * 1 ≤ (l.length + l2.length) * bytes := Nat.mul_le_mul_left _ hb
    unfold maxLen
    omega
  rcases h.f2.row with ⟨a0, _, h0, _⟩ | ⟨g2, off2, cap2, cur, rfl, h1, h2, h3, h4, hs2⟩
  · omega
  have hrow := h.f2
  refine wp_append_row s x t ho h T.ht hi hz0 hz1 hz2 hz T.pos hs ⟨g2, off2, none⟩ l2.length cap2 (l2.flatMap enc) hx hm (encs_len T.len l2) (fun j u hu => ?_) (fun u hu => ?_) h63 hbytes (fun g off cap w' h' => hk g off cap w' ?_)
  · rw [add_none]
    have hj : j < l2.length * sz := by rw [← encs_len T.len l2]; exact (List.getElem?_eq_some_iff.1 hu).1
    have := hrow.row_cell j hj
    rw [this, hu]
  · obtain ⟨b, hb, hu'⟩ := List.mem_flatMap.1 hu
    exact T.one b u hu'
  · have e : l.flatMap enc ++ l2.flatMap enc = (l ++ l2).flatMap enc := by simp
    have h'' := h'.f2.drop
    unfold LAt
    rw [List.length_append, ← e]
    exact h''
/-- .. as a step of a region that draws -/
theorem step_append_l {ops : Array Oper} {o : Oper} {a : Act} {K : Act → World → Prop} {Q : Exit → Act → World → Prop} {F : Prop} (hg : o.guard = none) (s x : Operand)
    (ho : o.op = .call { callee := .builtin .append, args := #[s, x], argTypes := #[t, t] })
    (T : ETy P t E sz bytes enc) {v2 : Value} {l2 : List β} (h : St w0 w (LAt E sz enc v l * (LAt E sz enc v2 l2 * R))) (hne : l2 ≠ [])
    (hs : a.eval s = v) (hx : a.eval x = v2) (hbytes : (l.length + l2.length) * bytes ≤ 140737488355328)
    (hk : ∀ g off cap w', St w0 w' (LAt E sz enc (.slice (some ⟨g, off, none⟩) (l.length + l2.length) cap) (l ++ l2) * R) → K (a.put o.dst (.slice (some ⟨g, off, none⟩) (l.length + l2.length) cap)) w') :
    if Region.wanted o (yielded ops a.tmps) = true then Oper.wp P o a w K Q else F := by
  have hw : Region.wanted o (yielded ops a.tmps) = true := by simp [Region.wanted, hg]
  rw [if_pos hw]
  exact wp_append_l s x ho T h hne hs hx hbytes hk
/-- 'append(v, x...)', x empty or not -/
theorem wpList_append_any {ops : Array Oper} {rest : List Oper} {o : Oper} {a : Act} {Q : Exit → Act → World → Prop} (hgd : o.guard = none) (s x : Operand)
    (ho : o.op = .call { callee := .builtin .append, args := #[s, x], argTypes := #[t, t] })
    (T : ETy P t E sz bytes enc) {v2 : Value} {l2 : List β} (h : St w0 w (LAt E sz enc v l * (LAt E sz enc v2 l2 * R)))
    (hs : a.eval s = v) (hx : a.eval x = v2) (hbytes : (l.length + l2.length) * bytes ≤ 140737488355328)
    (hk : ∀ v' w', St w0 w' (LAt E sz enc v' (l ++ l2) * R) → wpList P ops Q rest (a.put o.dst v') w') : wpList P ops Q (o :: rest) a w := by
  refine wpList_plain hgd fun K' hK' => ?_
  by_cases hne : l2 = []
  · subst hne
    obtain ⟨a1, c1, rfl, hc1, _⟩ := h.l_shape
    obtain ⟨a2, c2, rfl, _, _⟩ := h.f2.l_shape
    obtain ⟨z, hi, hz⟩ := T.info
    obtain ⟨i0, hi, _⟩ := info_parts hi
    have hr := run_append_none (P := P) (ty := o.type) w T.ht hi a1 a2 l.length c1 c2 hc1
    unfold Oper.wp execOp
    simp only [List.length_nil] at hx
    simp only [ho, resolve, invoke, builtin, Sem.run_bind, Sem.run_pure, Result.andThen_ok, List.map_toArray, List.map_cons, List.map_nil, hs, hx, hr]
    exact hK' _ _ (hk _ _ (by rw [List.append_nil]; exact h.f2.drop))
  · exact wp_append_l s x ho T h hne hs hx hbytes fun g off cap w' h' => hK' _ _ (hk _ _ h')
end
end Go.Proofs.YtnnahljdhdippaaGreatDoor
