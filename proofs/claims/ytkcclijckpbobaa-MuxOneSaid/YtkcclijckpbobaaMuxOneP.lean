/- MuxOne: plain law. -/
import Derived.Test.YtkcclijckpbobaaWMuxParts
namespace Go.Proofs.Ytkcclijckpbobaa
open Go.RowKit Go.Sort

theorem i64_and63 (n : Int) : bits .and .i64 n 63 = n % 64 := by
  have h63 : (BitVec.ofInt 64 63).toNat = 2 ^ 6 - 1 := by decide
  have key : (BitVec.ofInt 64 n &&& BitVec.ofInt 64 63).toNat = (n % ((2 ^ 64 : Nat) : Int)).toNat % 2 ^ 6 := by
    rw [BitVec.toNat_and, BitVec.toNat_ofInt, h63, Nat.and_two_pow_sub_one_eq_mod]
  show IntKind.i64.wrap ((BitVec.ofInt 64 n &&& BitVec.ofInt 64 63).toNat : Nat) = n % 64
  rw [key, IntKind.wrap_i64]
  omega
theorem mlook_put {α β : Type} [DecidableEq α] {k : α} {v : β} : ∀ l : List (α × β), mlook (mput l k v) k = some v
  | [] => by simp [mput, mlook]
  | p :: l => by
    unfold mput
    by_cases h : p.1 = k
    · rw [if_pos h]; simp [mlook]
    · rw [if_neg h]
      unfold mlook
      rw [if_neg h]
      exact mlook_put l
/-- a link asked for: it is there; there is no room; it comes -/
theorem one_cases {x : Mx} (ok : x.Ok) {s t i : Int} (h0 : 0 ≤ s ∧ s ≤ 63 ∧ 0 ≤ t ∧ t ≤ 126) (hi : (Lit.int .i64 i).wf = true) (hw : WfId x) :
    ∃ (x' : Mx) (e : Int) (l l' : List Int), x.route (s, t) = l ∧ x.join (s, t) i = (x', e) ∧ x'.route (s, t) = l' ∧ x'.Ok ∧ WfId x' ∧ l.length ≤ 1 ∧ ((e ≠ 0 ∧ l' = l ∧ (e == 13) = ((l.length : Int) == 1)) ∨ (e = 0 ∧ l = [] ∧ l' = [i])) := by
  unfold Mx.join
  rw [if_neg (by simp only []; omega)]
  have ht : t ≠ 127 := by omega
  have hr : ∀ x : Mx, x.route (s, t) = (match mlook x.l (s, t) with | some id => [id] | none => []) := fun x => by unfold Mx.route; exact if_pos ht
  cases hm : mlook x.l (s, t) with
  | some u =>
    refine ⟨x, 13, [u], [u], by rw [hr, hm], rfl, by rw [hr, hm], ok, hw, by simp, .inl ⟨by decide, rfl, by simp⟩⟩
  | none =>
    simp only [Option.isSome_none, Bool.false_eq_true, if_false]
    by_cases hf : x.most ≤ x.l.length
    · rw [if_pos hf]
      exact ⟨x, 10, [], [], by rw [hr, hm], rfl, by rw [hr, hm], ok, hw, by simp, .inl ⟨by decide, rfl, by simp⟩⟩
    · rw [if_neg hf]
      have hnone : (mlook x.l (s, t)).isSome = false := by rw [hm]; rfl
      refine ⟨⟨x.most, mput x.l (s, t) i⟩, 0, [], [i], by rw [hr, hm], rfl, by rw [hr]; simp only []; rw [mlook_put], ⟨?_, ?_, ?_, ok.m1, ok.m2⟩, ?_, by simp, .inr ⟨rfl, rfl, rfl⟩⟩
      · rw [mput_newL hnone, List.map_append, List.nodup_append]
        refine ⟨ok.nd, by simp, fun a ha b hb e => ?_⟩
        simp at hb
        subst e hb
        rw [(look_iffL _ _).2 ha] at hnone
        cases hnone
      · intro p hp
        simp only [] at hp
        rw [mput_newL hnone, List.mem_append] at hp
        rcases hp with hp | hp
        · exact ok.rng p hp
        · simp at hp; subst hp; simp only []; omega
      · simp only []
        rw [mput_newL hnone, List.length_append, List.length_singleton]
        omega
      · intro p hp
        simp only [] at hp
        rw [mput_newL hnone, List.mem_append] at hp
        rcases hp with hp | hp
        · exact hw p hp
        · simp at hp; subst hp; exact hi

abbrev Got := List (Int × Bool)
def got1 (l : List En) (s : Int) (k : Nat) (a : Int) : Prop := ∃ p ∈ l, p.1.1 = s ∧ p.1.2 < (k : Int) ∧ p.2 = a
/-- who is asked alone -/
structure GotInv (l : List En) (s : Int) (k : Nat) (r : List Int) (G : Got) : Prop where
  mem : ∀ a, a ∈ G.map (·.1) ↔ got1 l s k a ∨ a ∈ r
  all : ∀ p ∈ G, p.2 = true
theorem GotInv.start (l : List En) (ok : ∀ p ∈ l, 0 ≤ p.1.2) (s : Int) : GotInv l s 0 [] [] :=
  ⟨fun a => ⟨fun h => (by cases h), fun h => by
    rcases h with ⟨p, hp, _, h2, _⟩ | h
    · have := ok p hp; omega
    · cases h⟩, by simp⟩
theorem mput_keys {α β : Type} [DecidableEq α] {k : α} {v : β} : ∀ {l : List (α × β)} {a : α}, a ∈ (mput l k v).map (·.1) ↔ a ∈ l.map (·.1) ∨ a = k
  | [], a => by simp [mput]
  | p :: l, a => by
    unfold mput
    by_cases h : p.1 = k
    · rw [if_pos h]
      simp only [List.map_cons, List.mem_cons]
      subst h
      constructor
      · rintro (h | h)
        · exact .inr h
        · exact .inl (.inr h)
      · rintro ((h | h) | h)
        · exact .inl h
        · exact .inr h
        · exact .inl h
    · rw [if_neg h]
      simp only [List.map_cons, List.mem_cons, mput_keys (l := l)]
      constructor
      · rintro (h | h | h)
        · exact .inl (.inl h)
        · exact .inl (.inr h)
        · exact .inr h
      · rintro ((h | h) | h)
        · exact .inl h
        · exact .inr (.inl h)
        · exact .inr (.inr h)
theorem mput_all {α β : Type} [DecidableEq α] {k : α} {v : β} {P : β → Prop} (hv : P v) : ∀ {l : List (α × β)}, (∀ p ∈ l, P p.2) → ∀ p ∈ mput l k v, P p.2
  | [], _, p, hp => by simp [mput] at hp; subst hp; exact hv
  | q :: l, h, p, hp => by
    unfold mput at hp
    split at hp
    · rcases List.mem_cons.1 hp with e | hp
      · subst e; exact hv
      · exact h p (by simp [hp])
    · rcases List.mem_cons.1 hp with e | hp
      · subst e; exact h _ (by simp)
      · exact mput_all hv (fun p hp => h p (by simp [hp])) p hp
theorem GotInv.more {l : List En} {s : Int} {k : Nat} {r : List Int} {G : Got} (h : GotInv l s k r G) (a : Int) : GotInv l s k (r ++ [a]) (mput G a true) :=
  ⟨fun b => by
    rw [mput_keys, h.mem, List.mem_append, List.mem_singleton]
    constructor
    · rintro ((h | h) | h)
      · exact .inl h
      · exact .inr (.inl h)
      · exact .inr (.inr h)
    · rintro (h | h | h)
      · exact .inl (.inl h)
      · exact .inl (.inr h)
      · exact .inr h, mput_all (P := fun b => b = true) rfl h.all⟩
theorem GotInv.next {x : Mx} {s : Int} {k : Nat} {G : Got} (h : GotInv x.l s k (x.route (s, (k : Int))) G) (hn : (x.l.map (·.1)).Nodup) (hk : k < 127) : GotInv x.l s (k + 1) [] G := by
  refine ⟨fun a => ?_, h.all⟩
  rw [h.mem]
  have hr : a ∈ x.route (s, (k : Int)) ↔ ((s, (k : Int)), a) ∈ x.l := by
    unfold Mx.route
    rw [if_pos (by simp only []; omega)]
    cases hm : mlook x.l (s, (k : Int)) with
    | none =>
      constructor
      · intro h; cases h
      · intro h; rw [mem_look hn h] at hm; cases hm
    | some u =>
      simp only [List.mem_singleton]
      constructor
      · rintro rfl; exact look_mem hm
      · intro h; rw [mem_look hn h] at hm; exact Option.some.inj hm
  rw [hr]
  constructor
  · rintro (⟨p, h1, h2, h3, h4⟩ | h1)
    · exact .inl ⟨p, h1, h2, by omega, h4⟩
    · exact .inl ⟨_, h1, rfl, by simp only []; omega, rfl⟩
  · rintro (⟨⟨⟨p1, p2⟩, p3⟩, h1, h2, h3, h4⟩ | h)
    · simp only [] at h2 h3 h4
      subst h2 h4
      by_cases e : p2 = (k : Int)
      · subst e; exact .inr h1
      · exact .inl ⟨_, h1, rfl, by simp only []; omega, rfl⟩
    · cases h
theorem same_lenL {α : Type} [DecidableEq α] {l m : List α} (h1 : l.Nodup) (h2 : m.Nodup) (h : ∀ a, a ∈ l ↔ a ∈ m) : l.length = m.length :=
  Nat.le_antisymm (sub_lenL h1 fun a ha => (h a).1 ha) (sub_lenL h2 fun a ha => (h a).2 ha)
theorem GotInv.done {x : Mx} {s : Int} {G : Got} (h : GotInv x.l s 127 [] G) (ok : x.Ok) (hn : (G.map (·.1)).Nodup) :
    (x.route (s, 127)).Pairwise (· < ·) ∧ (∀ a ∈ x.route (s, 127), mlook G a = some true) ∧ (x.route (s, 127)).length = G.length := by
  unfold Mx.route
  rw [if_neg (by simp)]
  have hm : ∀ a, a ∈ setI ((x.l.filter fun p => decide (p.1.1 = s)).map (·.2)) ↔ a ∈ G.map (·.1) := fun a => by
    rw [setI_mem, h.mem]
    constructor
    · intro ha
      obtain ⟨p, hp, e⟩ := List.mem_map.1 ha
      have := List.mem_filter.1 hp
      exact .inl ⟨p, this.1, by simpa using this.2, by have := ok.rng p this.1; omega, e⟩
    · rintro (⟨p, h1, h2, _, h4⟩ | h)
      · exact List.mem_map.2 ⟨p, List.mem_filter.2 ⟨h1, by simpa using h2⟩, h4⟩
      · cases h
  refine ⟨setI_strict _, fun a ha => ?_, ?_⟩
  · have hs := (look_iffL _ _).2 ((hm a).1 ha)
    cases hl : mlook G a with
    | none => rw [hl] at hs; cases hs
    | some b =>
      have := h.all _ (look_mem hl)
      simp only [] at this
      rw [this]
  · have := same_lenL ((setI_strict _).imp (fun h => Int.ne_of_lt h)) hn hm
    rw [this, List.length_map]

theorem setI_lenP (l : List Int) : (setI l).length ≤ l.length := setI_len l
theorem route_len (x : Mx) (k : Lk) : (x.route k).length ≤ x.l.length + 1 := by
  unfold Mx.route
  split
  · split
    · simp
    · simp
  · have h1 := setI_len ((x.l.filter fun p => decide (p.1.1 = k.1)).map (·.2))
    have h2 := List.length_filter_le (fun p : En => decide (p.1.1 = k.1)) x.l
    rw [List.length_map] at h1
    omega
theorem route_wf {x : Mx} (h : WfId x) (k : Lk) : ∀ a ∈ x.route k, (Lit.int .i64 a).wf = true := by
  intro a ha
  unfold Mx.route at ha
  split at ha
  · split at ha
    · rename_i hm
      simp at ha
      subst ha
      exact h _ (look_mem hm)
    · cases ha
  · rw [setI_mem] at ha
    obtain ⟨p, hp, rfl⟩ := List.mem_map.1 ha
    exact h p (List.mem_filter.1 hp).1
end Go.Proofs.Ytkcclijckpbobaa
