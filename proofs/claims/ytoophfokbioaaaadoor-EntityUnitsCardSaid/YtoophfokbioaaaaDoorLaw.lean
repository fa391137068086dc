/- Arguments of plain data, opened by their shape; a law's row out of its walk. -/
import Derived.Test.YtoophfokbioaaaaDoorRows
import Derived.Test.YtoophfokbioaaaaDoorSep
import Derived.ProofKit
import Derived.OpenShut
import Derived.ShutString
import Derived.ChangeOld
import Derived.Deep.Slices
namespace Go.Proofs.YtoophfokbioaaaaDoor
open Go.ChangeShapes Go.WideShapes Go.ChangeAt Go.RowKit Go.Deep

/-- The shape of plain data. A struct is its fields, one by one. -/
inductive Sh where
  | int (k : IntKind)
  | bool
  | string
  | slice (e : Sh)
  | unit
  | pair (a b : Sh)

def Sh.size : Sh → Nat
  | .unit => 0
  | .pair a b => a.size + b.size
  | _ => 1

/-- What the cells of such data are. -/
def Sh.ok (w : World) : Sh → List Value → Prop
  | .int k, cs => ∃ n, cs = [.int k n] ∧ (Lit.int k n).wf = true
  | .bool, cs => ∃ b, cs = [.bool b]
  | .string, cs => ∃ s : ByteArray, cs = [.string s] ∧ s.size ≤ maxLen
  | .slice e, cs => ∃ a len cap, cs = [.slice a len cap] ∧ len ≤ cap ∧ cap ≤ maxLen ∧
      ∀ i, i < len → ∃ ad xs, a = some ad ∧ xs.length = e.size ∧ (∀ j, j < e.size → w.cell? (ad.add (i * e.size + j)) = xs[j]?) ∧ e.ok w xs
  | .unit, cs => cs = []
  | .pair a b, cs => ∃ x y, cs = x ++ y ∧ x.length = a.size ∧ a.ok w x ∧ b.ok w y

/-- Is the type of that shape? ('.inr (o, fs)': the fields from offset o on.) -/
def Sh.fits (P : Program) : Sh → TypeId ⊕ (Nat × List Field) → Bool
  | .int k, .inl t => match P.underlying t with
    | some (.int k') => k' == k
    | _ => false
  | .bool, .inl t => match P.underlying t with
    | some .bool => true
    | _ => false
  | .string, .inl t => match P.underlying t with
    | some .string => true
    | _ => false
  | .slice e, .inl t => match P.underlying t with
    | some (.slice u) => P.cellsOf u == e.size && e.fits P (.inl u)
    | _ => false
  | .pair a b, .inl t => match P.underlying t with
    | some (.struct fs) => match fs.toList with
      | f :: fs => P.cellsOf t == a.size + b.size && f.offset == 0 && P.cellsOf f.type == a.size && a.fits P (.inl f.type) && b.fits P (.inr (a.size, fs))
      | [] => false
    | _ => false
  | .pair a b, .inr (o, f :: fs) => f.offset == o && P.cellsOf f.type == a.size && a.fits P (.inl f.type) && b.fits P (.inr (o + a.size, fs))
  | .unit, .inr (_, []) => true
  | _, _ => false

section
variable {H : Type} {enc : TypeId × Value → H} {P : Program} {w : World} {base : Nat} {spare : Nat → Bool} {held : Bool}

theorem Sh.ok_of (sh : Sh) :
    (∀ t cs fuel (x : DataW H × List MemPlace), sh.fits P (.inl t) = true → DataW.trod enc P w base spare held fuel t cs = some x → sh.ok w cs) ∧
    (∀ o (fs : List Field) n (cs : List Value), sh.fits P (.inr (o, fs)) = true → (∀ f ∈ fs, ∃ y : DataW H × List MemPlace, DataW.trod enc P w base spare held n f.type ((cs.drop f.offset).take (P.cellsOf f.type)) = some y) → cs.length = o + sh.size → sh.ok w (cs.drop o)) := by
  induction sh with
  | int k =>
    refine ⟨fun t cs fuel x hf h => ?_, fun o fs n cs hf => by simp [Sh.fits] at hf⟩
    unfold Sh.fits at hf
    split at hf
    · rename_i k' ht
      obtain rfl : k' = k := by simpa using hf
      obtain ⟨n, rfl, _, hw⟩ := DataW.trod_int ht h
      exact ⟨n, rfl, hw⟩
    · cases hf
  | bool =>
    refine ⟨fun t cs fuel x hf h => ?_, fun o fs n cs hf => by simp [Sh.fits] at hf⟩
    unfold Sh.fits at hf
    split at hf
    · rename_i ht
      obtain ⟨n, rfl, _⟩ := DataW.trod_bool ht h
      exact ⟨n, rfl⟩
    · cases hf
  | string =>
    refine ⟨fun t cs fuel x hf h => ?_, fun o fs n cs hf => by simp [Sh.fits] at hf⟩
    unfold Sh.fits at hf
    split at hf
    · rename_i ht
      obtain ⟨n, rfl, _, hw⟩ := DataW.trod_string ht h
      exact ⟨n, rfl, hw⟩
    · cases hf
  | slice e ih =>
    refine ⟨fun t cs fuel x hf h => ?_, fun o fs n cs hf => by simp [Sh.fits] at hf⟩
    unfold Sh.fits at hf
    split at hf
    · rename_i u ht
      simp only [Bool.and_eq_true, beq_iff_eq] at hf
      rcases open_slice ht h with ⟨rfl, _⟩ | ⟨a, len, cap, m, n, D, Pl, rfl, _, hl, hm, hmm, _, hi⟩
      · exact ⟨none, 0, 0, rfl, Nat.le_refl _, Nat.zero_le _, fun i hi => by omega⟩
      · refine ⟨some a, len, cap, rfl, hl, hm, fun i him => ?_⟩
        obtain ⟨cs', hc, ht'⟩ := hi i (by rw [hmm]; split <;> omega)
        rw [hf.1] at hc
        obtain ⟨_, hcl, hat⟩ := World.cells?_some hc
        refine ⟨a, cs', rfl, hcl, fun j hj => ?_, ih.1 u cs' n _ hf.2 ht'⟩
        rw [← Go.Deep.add_add]
        exact hat j hj
    · cases hf
  | unit =>
    refine ⟨fun t cs fuel x hf => by simp [Sh.fits] at hf, fun o fs n cs _ _ hl => ?_⟩
    show cs.drop o = []
    exact List.drop_eq_nil_of_le (by simp [Sh.size] at hl; omega)
  | pair a b iha ihb =>
    have key : ∀ o (f : Field) (fs : List Field) n (cs : List Value), f.offset = o → P.cellsOf f.type = a.size → a.fits P (.inl f.type) = true → b.fits P (.inr (o + a.size, fs)) = true →
        (∀ g ∈ f :: fs, ∃ y : DataW H × List MemPlace, DataW.trod enc P w base spare held n g.type ((cs.drop g.offset).take (P.cellsOf g.type)) = some y) → cs.length = o + (a.size + b.size) → (Sh.pair a b).ok w (cs.drop o) := by
      intro o f fs n cs h1 h2 h3 h4 h5 h6
      refine ⟨(cs.drop o).take a.size, (cs.drop o).drop a.size, (List.take_append_drop _ _).symm, by simp; omega, ?_, ?_⟩
      · obtain ⟨y, hy⟩ := h5 f (by simp)
        rw [h1, h2] at hy
        exact iha.1 _ _ _ _ h3 hy
      · rw [List.drop_drop]
        exact ihb.2 (o + a.size) fs n cs h4 (fun g hg => h5 g (by simp [hg])) (by omega)
    refine ⟨fun t cs fuel x hf h => ?_, fun o fs n cs hf hall hl => ?_⟩
    · unfold Sh.fits at hf
      split at hf
      · rename_i fs ht
        split at hf
        · rename_i f gs hfs
          simp only [Bool.and_eq_true, beq_iff_eq] at hf
          obtain ⟨⟨⟨⟨e0, e1⟩, e2⟩, e3⟩, e4⟩ := hf
          obtain ⟨xs, n, _, _, hlen, hxl, hg⟩ := DataW.trod_struct ht h
          have := key 0 f gs n cs e1 e2 e3 (by simpa using e4) (fun g hg' => ?_) (by omega)
          · simpa using this
          · rw [← hfs] at hg'
            obtain ⟨i, hi, hgi⟩ := List.getElem_of_mem hg'
            have hi' : i < fs.size := by simpa using hi
            have h1 := hg i g (by rw [Array.getElem?_eq_getElem hi']; simpa using hgi)
            rw [List.getElem?_eq_getElem (by omega)] at h1
            exact ⟨_, h1⟩
        · cases hf
      · cases hf
    · cases fs with
      | nil => simp [Sh.fits] at hf
      | cons f fs =>
        simp only [Sh.fits, Bool.and_eq_true, beq_iff_eq] at hf
        obtain ⟨⟨⟨e1, e2⟩, e3⟩, e4⟩ := hf
        exact key o f fs n cs e1 e2 e3 e4 hall (by simpa [Sh.size] using hl)

/-- An argument, opened. -/
theorem Sh.opened {sh : Sh} {t : TypeId} {v : Value} {d : DataW H} {p : List MemPlace} (hf : sh.fits P (.inl t) = true) (h : DataW.Trod enc P w base spare held t v d p) : sh.ok w v.cells.toList := by
  obtain ⟨n, hn⟩ := h
  exact sh.ok_of.1 t _ n _ hf hn


/-- A slice that came in, its elements' cells by index. -/
theorem Sh.slice_ok {e : Sh} {a : Option Addr} {len cap : Nat} (h : (Sh.slice e).ok w [.slice a len cap]) (he : 0 < e.size) :
    len ≤ cap ∧ cap ≤ maxLen ∧ (0 < len → ∃ b off, a = some ⟨b, off, none⟩ ∧ b < w.heap.size ∧
      ∀ i, i < len → ∃ xs, xs.length = e.size ∧ (∀ j, j < e.size → w.cell? ⟨b, off + i * e.size + j, none⟩ = xs[j]?) ∧ e.ok w xs) := by
  obtain ⟨a', len', cap', hv, h1, h2, h3⟩ := h
  simp only [List.cons.injEq, Value.slice.injEq, and_true] at hv
  obtain ⟨rfl, rfl, rfl⟩ := hv
  refine ⟨h1, h2, fun h0 => ?_⟩
  obtain ⟨ad, xs, rfl, hl, hc, _⟩ := h3 0 h0
  obtain ⟨b, off, spot⟩ := ad
  have hc0 := hc 0 he
  rw [List.getElem?_eq_getElem (by omega)] at hc0
  have hspot : spot = none := by simpa [Addr.add] using World.cell?_spot hc0
  subst hspot
  refine ⟨b, off, rfl, ?_, fun i hi => ?_⟩
  · have := World.block_lt_of_cell? _ _ hc0
    simpa [Addr.add] using this
  · obtain ⟨ad, xs, e1, hl, hc, hx⟩ := h3 i hi
    obtain rfl : ad = ⟨b, off, none⟩ := by simpa using e1.symm
    refine ⟨xs, hl, fun j hj => ?_, hx⟩
    have := hc j hj
    rw [← this]
    congr 1
    unfold Addr.add
    split <;> simp_all [Nat.add_assoc]
end
end Go.Proofs.YtoophfokbioaaaaDoor
