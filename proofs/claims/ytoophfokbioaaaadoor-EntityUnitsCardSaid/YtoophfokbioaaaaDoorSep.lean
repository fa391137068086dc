/- A heap predicate logic of our own: which blocks a call owns, and what they hold. -/
import Derived.WalkKit
import Derived.Deep.QuietTactic
import Derived.BigQuiet
import Derived.StillTailTactics
import Derived.Deep.RegionHeld3
import Derived.Lib.Hide
import Derived.WalkSpells
import Derived.WalkLawsBesides
import Derived.Deep.Light
import Derived.Deep.DeepCutAuto
import Derived.Deep.DeepFit
import Derived.Deep.CutBlock
namespace Go.Proofs.YtoophfokbioaaaaDoor
open Go.RowKit

/-- A claim about a part of the heap. -/
def HP : Type := (Nat → Option Obj) → Prop

def hdisj (a b : Nat → Option Obj) : Prop := ∀ k, a k = none ∨ b k = none
def hjoin (a b : Nat → Option Obj) : Nat → Option Obj := fun k => (a k).or (b k)

def HP.star (A B : HP) : HP := fun h => ∃ a b, hdisj a b ∧ h = hjoin a b ∧ A a ∧ B b
instance : Mul HP := ⟨HP.star⟩
/-- nothing -/
def HP.emp : HP := fun h => h = fun _ => none
instance : One HP := ⟨HP.emp⟩
/-- block b is o -/
def blk (b : Nat) (o : Obj) : HP := fun h => h = fun k => if k = b then some o else none
/-- a plain fact -/
def fact (p : Prop) : HP := fun h => p ∧ h = fun _ => none
def hex {α : Sort _} (A : α → HP) : HP := fun h => ∃ x, A x h
/-- the whole heap of a world, as it is -/
def Old (w : World) : HP := fun h => h = fun k => w.heap[k]?

theorem star_def (A B : HP) (h : Nat → Option Obj) : (A * B) h = ∃ a b, hdisj a b ∧ h = hjoin a b ∧ A a ∧ B b := rfl

theorem hjoin_comm {a b : Nat → Option Obj} (h : hdisj a b) : hjoin a b = hjoin b a := by
  funext k
  unfold hjoin
  rcases h k with e | e <;> simp [e]

theorem star_comm (A B : HP) : A * B = B * A := by
  funext h
  apply propext
  constructor
  · rintro ⟨a, b, d, e, x, y⟩
    exact ⟨b, a, fun k => (d k).symm, by rw [e, hjoin_comm d], y, x⟩
  · rintro ⟨a, b, d, e, x, y⟩
    exact ⟨b, a, fun k => (d k).symm, by rw [e, hjoin_comm d], y, x⟩

theorem star_assoc (A B C : HP) : A * B * C = A * (B * C) := by
  funext h
  apply propext
  constructor
  · rintro ⟨ab, c, d, e, ⟨a, b, d2, e2, x, y⟩, z⟩
    subst e2
    refine ⟨a, hjoin b c, ?_, ?_, x, b, c, ?_, rfl, y, z⟩
    · intro k
      have h1 := d k
      have h2 := d2 k
      unfold hjoin at *
      cases ha : a k <;> cases hb : b k <;> cases hc : c k <;> simp_all
    · rw [e]
      funext k
      unfold hjoin
      cases a k <;> simp
    · intro k
      have h1 := d k
      unfold hjoin at h1
      cases ha : a k <;> cases hb : b k <;> cases hc : c k <;> simp_all
  · rintro ⟨a, bc, d, e, x, b, c, d2, e2, y, z⟩
    subst e2
    refine ⟨hjoin a b, c, ?_, ?_, ⟨a, b, ?_, rfl, x, y⟩, z⟩
    · intro k
      have h1 := d k
      have h2 := d2 k
      unfold hjoin at *
      cases ha : a k <;> cases hb : b k <;> cases hc : c k <;> simp_all
    · rw [e]
      funext k
      unfold hjoin
      cases a k <;> simp
    · intro k
      have h1 := d k
      unfold hjoin at h1
      cases ha : a k <;> cases hb : b k <;> cases hc : c k <;> simp_all

instance : Std.Associative (α := HP) (· * ·) := ⟨star_assoc⟩
instance : Std.Commutative (α := HP) (· * ·) := ⟨star_comm⟩

theorem star_left_comm (A B C : HP) : A * (B * C) = B * (A * C) := by rw [← star_assoc, star_comm A B, star_assoc]

theorem one_star (A : HP) : 1 * A = A := by
  funext h
  apply propext
  constructor
  · rintro ⟨a, b, d, e, x, y⟩
    have hx : a = fun _ => none := x
    subst hx
    have : h = b := by rw [e]; funext k; simp [hjoin]
    rw [this]; exact y
  · intro x
    exact ⟨fun _ => none, h, fun k => .inl rfl, by funext k; simp [hjoin], rfl, x⟩
theorem star_one (A : HP) : A * 1 = A := by rw [star_comm, one_star]

theorem star_3 (A B C D : HP) : A * (B * (C * D)) = C * (A * (B * D)) := by ac_rfl
theorem star_4 (A B C D E : HP) : A * (B * (C * (D * E))) = D * (A * (B * (C * E))) := by ac_rfl
theorem star_5 (A B C D E G : HP) : A * (B * (C * (D * (E * G)))) = E * (A * (B * (C * (D * G)))) := by ac_rfl

/-- From w0 on nothing was said or heard; of w's heap A is known. -/
structure St (w0 w : World) (A : HP) : Prop where
  os : w.os = w0.os
  tape : w.tape = w0.tape
  output : w.output = w0.output
  sat : ∃ h, (∀ k o, h k = some o → w.heap[k]? = some o) ∧ A h

section
variable {w0 w : World} {A B R : HP}

theorem St.start (w : World) : St w w (Old w) := ⟨rfl, rfl, rfl, _, fun _ _ h => h, rfl⟩

theorem St.eq (h : St w0 w A) (e : A = B) : St w0 w B := e ▸ h

theorem St.imp (h : St w0 w (A * R)) (hab : ∀ h, A h → B h) : St w0 w (B * R) := by
  obtain ⟨o, t, u, g, hg, a, b, d, e, x, y⟩ := h
  exact ⟨o, t, u, g, hg, a, b, d, e, hab _ x, y⟩

theorem St.imp0 (h : St w0 w A) (hab : ∀ h, A h → B h) : St w0 w B := by
  obtain ⟨o, t, u, g, hg, x⟩ := h
  exact ⟨o, t, u, g, hg, hab _ x⟩

theorem St.drop (h : St w0 w (A * R)) : St w0 w R := by
  obtain ⟨o, t, u, g, hg, a, b, d, e, x, y⟩ := h
  refine ⟨o, t, u, b, fun k v hv => hg k v ?_, y⟩
  rw [e]
  unfold hjoin
  rcases d k with hk | hk
  · simp [hk, hv]
  · rw [hk] at hv; cases hv

theorem St.dropR (h : St w0 w (A * R)) : St w0 w A := (h.eq (star_comm A R)).drop

theorem St.ex {α : Sort _} {F : α → HP} (h : St w0 w (hex F * R)) : ∃ x, St w0 w (F x * R) := by
  obtain ⟨o, t, u, g, hg, a, b, d, e, ⟨x, hx⟩, y⟩ := h
  exact ⟨x, o, t, u, g, hg, a, b, d, e, hx, y⟩

theorem St.ex0 {α : Sort _} {F : α → HP} (h : St w0 w (hex F)) : ∃ x, St w0 w (F x) := by
  obtain ⟨o, t, u, g, hg, ⟨x, hx⟩⟩ := h
  exact ⟨x, o, t, u, g, hg, hx⟩

theorem St.mk_ex {α : Sort _} {F : α → HP} (x : α) (h : St w0 w (F x * R)) : St w0 w (hex F * R) :=
  h.imp fun _ hx => ⟨x, hx⟩

theorem fact_star {p : Prop} (hp : p) : fact p * R = R := by
  have : fact p = 1 := by
    funext h
    apply propext
    exact ⟨fun x => x.2, fun x => ⟨hp, x⟩⟩
  rw [this, one_star]

theorem St.out {p : Prop} (h : St w0 w (fact p * R)) : p ∧ St w0 w R := by
  refine ⟨?_, h.drop⟩
  obtain ⟨o, t, u, g, hg, a, b, d, e, ⟨hp, _⟩, y⟩ := h
  exact hp

theorem St.inn {p : Prop} (hp : p) (h : St w0 w R) : St w0 w (fact p * R) := by rw [fact_star hp]; exact h

/-- what a block is -/
theorem St.heap {b : Nat} {o : Obj} (h : St w0 w (blk b o * R)) : w.heap[b]? = some o := by
  obtain ⟨_, t, u, g, hg, a, c, d, e, x, y⟩ := h
  have hx : a = fun k => if k = b then some o else none := x
  refine hg b o ?_
  rw [e]
  simp [hjoin, hx]

theorem St.heap0 {b : Nat} {o : Obj} (h : St w0 w (blk b o)) : w.heap[b]? = some o := by
  rw [← star_one (blk b o)] at h
  exact h.heap

theorem St.lt {b : Nat} {o : Obj} (h : St w0 w (blk b o * R)) : b < w.heap.size := by
  have := h.heap
  exact (Array.getElem?_eq_some_iff.1 this).1

theorem St.old (h : St w0 w (Old w0 * R)) : Below w0.heap.size w0 w := by
  obtain ⟨o, t, u, g, hg, a, c, d, e, x, y⟩ := h
  have hx : a = fun k => w0.heap[k]? := x
  have hb : ∀ k, k < w0.heap.size → w.heap[k]? = w0.heap[k]? := by
    intro k hk
    have : w0.heap[k]? = some w0.heap[k] := Array.getElem?_eq_getElem hk
    rw [this]
    refine hg k _ ?_
    rw [e]
    simp [hjoin, hx, this]
  refine ⟨o, t, u, ?_, hb⟩
  rcases Nat.eq_zero_or_pos w0.heap.size with h0 | h0
  · omega
  · have := hb (w0.heap.size - 1) (by omega)
    rw [Array.getElem?_eq_getElem (show w0.heap.size - 1 < w0.heap.size by omega)] at this
    have := (Array.getElem?_eq_some_iff.1 this).1
    omega

theorem St.old0 (h : St w0 w (Old w0)) : Below w0.heap.size w0 w := by
  rw [← star_one (Old w0)] at h
  exact h.old

/-- Two owned blocks are two. -/
theorem St.ne {b c : Nat} {o p : Obj} (h : St w0 w (blk b o * (blk c p * R))) : b ≠ c := by
  obtain ⟨_, t, u, g, hg, a, m, d, e, x, a2, m2, d2, e2, x2, y⟩ := h
  have hx : a = fun k => if k = b then some o else none := x
  have hx2 : a2 = fun k => if k = c then some p else none := x2
  rintro rfl
  have := d b
  rw [e2] at this
  simp [hx, hx2, hjoin] at this

theorem St.drew (h : St w0 w A) : St w0 w.drew A := ⟨h.os, h.tape, h.output, h.sat⟩
theorem St.drewN (h : St w0 w A) (n : Nat) : St w0 (w.drewN n) A := ⟨h.os, h.tape, h.output, h.sat⟩

theorem St.alloc (h : St w0 w A) (o : Obj) : St w0 (w.alloc o) (blk w.heap.size o * A) := by
  obtain ⟨ho, ht, hu, g, hg, x⟩ := h
  have hn : ∀ k, w.heap.size ≤ k → g k = none := by
    intro k hk
    cases hgk : g k with
    | none => rfl
    | some v =>
      have := (Array.getElem?_eq_some_iff.1 (hg k v hgk)).1
      omega
  refine ⟨ho, ht, hu, hjoin (fun k => if k = w.heap.size then some o else none) g, ?_, _, g, ?_, rfl, rfl, x⟩
  · intro k v hv
    show (w.heap.push o)[k]? = some v
    rw [Array.getElem?_push]
    unfold hjoin at hv
    by_cases hk : k = w.heap.size
    · simp [hk] at hv ⊢; exact hv
    · simp [hk] at hv ⊢; exact hg k v hv
  · intro k
    by_cases hk : k = w.heap.size
    · right; exact hn k (by omega)
    · left; simp [hk]

/-- A block is replaced by another one, all else stays. -/
theorem St.swap {w' : World} {b : Nat} {o o' : Obj} (h : St w0 w (blk b o * R)) (e1 : w'.os = w.os) (e2 : w'.tape = w.tape) (e3 : w'.output = w.output)
    (hb : w'.heap[b]? = some o') (hr : ∀ k, k ≠ b → k < w.heap.size → w'.heap[k]? = w.heap[k]?) : St w0 w' (blk b o' * R) := by
  obtain ⟨ho, ht, hu, g, hg, a, c, d, e, x, y⟩ := h
  have hx : a = fun k => if k = b then some o else none := x
  refine ⟨e1.trans ho, e2.trans ht, e3.trans hu, hjoin (fun k => if k = b then some o' else none) c, ?_, _, c, ?_, rfl, rfl, y⟩
  · intro k v hv
    unfold hjoin at hv
    by_cases hk : k = b
    · simp [hk] at hv; rw [hk, hb, hv]
    · simp [hk] at hv
      have h1 : w.heap[k]? = some v := by
        refine hg k v ?_
        rw [e]
        simp [hjoin, hx, hk, hv]
      rw [hr k hk (Array.getElem?_eq_some_iff.1 h1).1, h1]
  · intro k
    have := d k
    rw [hx] at this
    by_cases hk : k = b
    · simp [hk] at this ⊢; exact this
    · left; simp [hk]

theorem heap_setCell_self (w : World) (b i : Nat) (v : Value) (c : Array Value) (t : TypeId) (f : Nat × Nat) (h : w.heap[b]? = some (.cells c t f)) :
    (w.setCell ⟨b, i, none⟩ v).heap[b]? = some (.cells (c.setIfInBounds i v) t f) := by
  have hlt := (Array.getElem?_eq_some_iff.1 h).1
  have h' : w.heap[b] = .cells c t f := (Array.getElem?_eq_some_iff.1 h).2
  show (w.heap.modify b _)[b]? = _
  rw [Array.getElem?_eq_getElem (by simpa using hlt), Array.getElem_modify_self, h']
  rfl

theorem St.set {b : Nat} {c : Array Value} {t : TypeId} {f : Nat × Nat} (h : St w0 w (blk b (.cells c t f) * R)) (i : Nat) (v : Value) :
    St w0 (w.setCell ⟨b, i, none⟩ v) (blk b (.cells (c.setIfInBounds i v) t f) * R) :=
  h.swap rfl rfl rfl (heap_setCell_self _ _ _ _ _ _ _ h.heap) (fun _ hk _ => Below.heap_setCell _ _ _ _ hk)

/-- the cells of an owned block, in the walk's form -/
theorem St.cell {b : Nat} {c : Array Value} {t : TypeId} {f : Nat × Nat} (h : St w0 w (blk b (.cells c t f) * R)) (i : Nat) : w.cell? ⟨b, i, none⟩ = c[i]? := by
  simp [World.cell?, h.heap]
theorem St.free {b : Nat} {c : Array Value} {t : TypeId} (h : St w0 w (blk b (.cells c t (0, 0)) * R)) (i : Nat) : w.frozen? ⟨b, i, none⟩ = false := by
  simp [World.frozen?, h.heap]

/-- the second, third .. claim ahead of all others -/
theorem St.f2 {A B R : HP} (h : St w0 w (A * (B * R))) : St w0 w (B * (A * R)) := h.eq (star_left_comm _ _ _)
theorem St.f3 {A B C R : HP} (h : St w0 w (A * (B * (C * R)))) : St w0 w (C * (A * (B * R))) := h.eq (star_3 _ _ _ _)
theorem St.f4 {A B C D R : HP} (h : St w0 w (A * (B * (C * (D * R))))) : St w0 w (D * (A * (B * (C * R)))) := h.eq (star_4 _ _ _ _ _)
theorem St.f5 {A B C D E R : HP} (h : St w0 w (A * (B * (C * (D * (E * R)))))) : St w0 w (E * (A * (B * (C * (D * R))))) := h.eq (star_5 _ _ _ _ _ _)
/-- the first claim behind the next one, behind the next two .. -/
theorem St.b3 {A B C R : HP} (h : St w0 w (A * (B * (C * R)))) : St w0 w (B * (C * (A * R))) := h.eq (by ac_rfl)
theorem St.b4 {A B C D R : HP} (h : St w0 w (A * (B * (C * (D * R))))) : St w0 w (B * (C * (D * (A * R)))) := h.eq (by ac_rfl)
theorem St.b5 {A B C D E R : HP} (h : St w0 w (A * (B * (C * (D * (E * R)))))) : St w0 w (B * (C * (D * (E * (A * R))))) := h.eq (by ac_rfl)
/-- the second and the third change places -/
theorem St.m2 {A B C R : HP} (h : St w0 w (A * (B * (C * R)))) : St w0 w (A * (C * (B * R))) := h.eq (by ac_rfl)
end
end Go.Proofs.YtoophfokbioaaaaDoor
