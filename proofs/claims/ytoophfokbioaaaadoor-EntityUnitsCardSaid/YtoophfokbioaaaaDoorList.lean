/- Slices of things: a list, each element some cells. -/
import Derived.Test.YtoophfokbioaaaaDoorRow
import Derived.Deep.RegionLaw
namespace Go.Proofs.YtoophfokbioaaaaDoor
open Go.RowKit

/-- v is a slice of the things l; each is enc's cells -/
def LAt {β : Type} (E : TypeId) (sz : Nat) (enc : β → List Value) (v : Value) (l : List β) : HP := Row E sz v l.length (l.flatMap enc)

/-- what an element's type is -/
structure ETy (P : Program) (t E : TypeId) (sz bytes : Nat) {β : Type} (enc : β → List Value) : Prop where
  ht : P.underlying t = some (.slice E)
  info : ∃ z, (P.info? E).map (fun i => (i.zero, i.size, i.bytes)) = some (some z, sz, bytes) ∧ z.cells.size = sz
  len : ∀ b, (enc b).length = sz
  one : ∀ b, ∀ u ∈ enc b, u.oneCell' = true
  pos : 0 < sz
  bpos : 0 < bytes

section
variable {β : Type} {P : Program} {w0 w : World} {R : HP} {t E : TypeId} {sz bytes : Nat} {enc : β → List Value} {v : Value} {l : List β}

theorem encs_len (T : ∀ b, (enc b).length = sz) : ∀ l : List β, (l.flatMap enc).length = l.length * sz
  | [] => by simp
  | b :: l => by rw [List.flatMap_cons, List.length_append, encs_len T l, T b, List.length_cons, Nat.add_mul, Nat.one_mul, Nat.add_comm]

theorem encs_at (T : ∀ b, (enc b).length = sz) : ∀ (l : List β) (i : Nat) (b : β) (j : Nat), l[i]? = some b → j < sz → (l.flatMap enc)[i * sz + j]? = (enc b)[j]?
  | [], _, _, _, h, _ => by simp at h
  | c :: l, 0, b, j, h, hj => by
    simp at h
    subst h
    rw [List.flatMap_cons, Nat.zero_mul, Nat.zero_add, List.getElem?_append_left (by rw [T]; exact hj)]
  | c :: l, i + 1, b, j, h, hj => by
    rw [List.flatMap_cons, List.getElem?_append_right (by rw [T, Nat.add_mul]; omega), T]
    rw [← encs_at T l i b j (by simpa using h) hj]
    congr 1
    rw [Nat.add_mul]
    omega

theorem St.l_nil (E : TypeId) (sz : Nat) (enc : β → List Value) (h : St w0 w R) (a : Option Addr := none) : St w0 w (LAt E sz enc (.slice a 0 0) [] * R) := h.row_nil E sz a

theorem St.l_shape (h : St w0 w (LAt E sz enc v l * R)) : ∃ a cap, v = .slice a l.length cap ∧ l.length ≤ cap ∧ cap ≤ maxLen := h.row_shape

/-- a slice that was just written out -/
theorem St.l_mk {g : Nat} {cs : Array Value} (h : St w0 w (blk g (.cells cs E (0, 0)) * R)) (T : ∀ b, (enc b).length = sz) (l : List β) (n : Nat) (hn : n = l.length) (hc : cs = (l.flatMap enc).toArray) (hm : n ≤ maxLen) : St w0 w (LAt E sz enc (.slice (some ⟨g, 0, none⟩) n n) l * R) := by
  subst hc hn
  have hl := encs_len T l
  refine St.row_mk h hl (Nat.le_refl _) hm (by simp [hl]) (fun j hj => ?_)
  rw [Nat.zero_add, List.getElem?_toArray]

/-- where the slice's cells lie -/
theorem St.l_cells (h : St w0 w (LAt E sz enc v l * R)) (T : ∀ b, (enc b).length = sz) : (l = [] ∧ ∃ a, v = .slice a 0 0) ∨ ∃ g off cap, v = .slice (some ⟨g, off, none⟩) l.length cap ∧ l.length ≤ cap ∧ cap ≤ maxLen ∧
    ∀ i b, l[i]? = some b → ∀ j u, (enc b)[j]? = some u → w.cell? ⟨g, off + i * sz + j, none⟩ = some u := by
  rcases h.row with ⟨a0, hv, h0, _⟩ | ⟨g, off, cap, cur, rfl, h1, h2, h3, h4, hs⟩
  · exact .inl ⟨List.eq_nil_of_length_eq_zero h0, a0, hv⟩
  · refine .inr ⟨g, off, cap, rfl, h1, h2, fun i b hi j u hu => ?_⟩
    have hj : j < sz := by rw [← T b]; exact (List.getElem?_eq_some_iff.1 hu).1
    have hil : i < l.length := (List.getElem?_eq_some_iff.1 hi).1
    have : i * sz + j < l.length * sz := by
      have := Nat.mul_le_mul_right sz (show i + 1 ≤ l.length from hil)
      rw [Nat.add_mul] at this
      omega
    rw [Nat.add_assoc, h.row_cell _ this, encs_at T l i b j hi hj, hu]

theorem new_cells (w : World) (cs : List Value) (t : TypeId) (g : Nat) (hg : g = w.heap.size) (j : Nat) (u : Value) (h : cs[j]? = some u) : (w.alloc (.cells cs.toArray t)).cell? ⟨g, j, none⟩ = some u := by
  subst hg
  simp [h]

/-- 'append(v, x)' -/
theorem wp_append_elem {ops : Array Oper} {rest : List Oper} {o : Oper} {a : Act} {Q : Exit → Act → World → Prop} (hgd : o.guard = none) (s x : Operand)
    (ho : o.op = .call { callee := .builtin .append, args := #[s, x], argTypes := #[t, t] })
    (T : ETy P t E sz bytes enc) (h : St w0 w (LAt E sz enc v l * R)) (b : β)
    (hs : a.eval s = v) (g : Nat) (hx : a.eval x = .slice (some ⟨g, 0, none⟩) 1 1) (hc : ∀ j u, (enc b)[j]? = some u → w.cell? ⟨g, j, none⟩ = some u)
    (hbytes : (l.length + 1) * bytes ≤ 140737488355328)
    (hk : ∀ g off cap w', St w0 w' (LAt E sz enc (.slice (some ⟨g, off, none⟩) (l.length + 1) cap) (l ++ [b]) * R) → wpList P ops Q rest (a.put o.dst (.slice (some ⟨g, off, none⟩) (l.length + 1) cap)) w') : wpList P ops Q (o :: rest) a w := by
  obtain ⟨z, hi, hz⟩ := T.info
  obtain ⟨i0, hi, hz0, hz1, hz2⟩ := info_parts hi
  have hb := T.bpos
  have h63 : l.length + 1 ≤ maxLen := by
    have : (l.length + 1) * 1 ≤ (l.length + 1) * bytes := Nat.mul_le_mul_left _ hb
    unfold maxLen
    omega
  refine wpList_append_row hgd s x t ho h T.ht hi hz0 hz1 hz2 hz T.pos hs ⟨g, 0, none⟩ 1 1 (enc b) hx (by decide) (by rw [T.len, Nat.one_mul]) (fun j u hu => ?_) (T.one b) h63 hbytes (fun g off cap w' h' => hk g off cap w' ?_)
  · rw [add_none, Nat.zero_add]
    exact hc j u hu
  · have e : l.flatMap enc ++ enc b = (l ++ [b]).flatMap enc := by simp
    unfold LAt
    rw [List.length_append, List.length_singleton, ← e]
    exact h'
/-- 'append(v, x...)', x not empty -/
theorem wp_append_l {o : Oper} {a : Act} {K : Act → World → Prop} {Q : Exit → Act → World → Prop} (s x : Operand)
    (ho : o.op = .call { callee := .builtin .append, args := #[s, x], argTypes := #[t, t] })
    (T : ETy P t E sz bytes enc) {v2 : Value} {l2 : List β} (h : St w0 w (LAt E sz enc v l * (LAt E sz enc v2 l2 * R))) (hne : l2 ≠ [])
    (hs : a.eval s = v) (hx : a.eval x = v2) (hbytes : (l.length + l2.length) * bytes ≤ 140737488355328)
    (hk : ∀ g off cap w', St w0 w' (LAt E sz enc (.slice (some ⟨g, off, none⟩) (l.length + l2.length) cap) (l ++ l2) * R) → K (a.put o.dst (.slice (some ⟨g, off, none⟩) (l.length + l2.length) cap)) w') : o.wp P a w K Q := by
  obtain ⟨z, hi, hz⟩ := T.info
  obtain ⟨i0, hi, hz0, hz1, hz2⟩ := info_parts hi
  have hb := T.bpos
  have hm : 0 < l2.length := by cases l2 with | nil => exact absurd rfl hne | cons _ _ => simp
  have h63 : l.length + l2.length ≤ maxLen := by
    have : (l.length + l2.length) * 1 ≤ (l.length + l2.length) * bytes := Nat.mul_le_mul_left _ hb
    unfold maxLen
    omega
  rcases h.f2.row with ⟨a0, _, h0, _⟩ | ⟨g2, off2, cap2, cur, rfl, h1, h2, h3, h4, hs2⟩
  · omega
  have hrow := h.f2
  refine wp_append_row s x t ho h T.ht hi hz0 hz1 hz2 hz T.pos hs ⟨g2, off2, none⟩ l2.length cap2 (l2.flatMap enc) hx hm (encs_len T.len l2) (fun j u hu => ?_) (fun u hu => ?_) h63 hbytes (fun g off cap w' h' => hk g off cap w' ?_)
  · rw [add_none]
    have hj : j < l2.length * sz := by rw [← encs_len T.len l2]; exact (List.getElem?_eq_some_iff.1 hu).1
    have := hrow.row_cell j hj
    rw [this, hu]
  · obtain ⟨b, hb, hu'⟩ := List.mem_flatMap.1 hu
    exact T.one b u hu'
  · have e : l.flatMap enc ++ l2.flatMap enc = (l ++ l2).flatMap enc := by simp
    have h'' := h'.f2.drop
    unfold LAt
    rw [List.length_append, ← e]
    exact h''
/-- .. as a step of a region that draws -/
theorem step_append_l {ops : Array Oper} {o : Oper} {a : Act} {K : Act → World → Prop} {Q : Exit → Act → World → Prop} {F : Prop} (hg : o.guard = none) (s x : Operand)
    (ho : o.op = .call { callee := .builtin .append, args := #[s, x], argTypes := #[t, t] })
    (T : ETy P t E sz bytes enc) {v2 : Value} {l2 : List β} (h : St w0 w (LAt E sz enc v l * (LAt E sz enc v2 l2 * R))) (hne : l2 ≠ [])
    (hs : a.eval s = v) (hx : a.eval x = v2) (hbytes : (l.length + l2.length) * bytes ≤ 140737488355328)
    (hk : ∀ g off cap w', St w0 w' (LAt E sz enc (.slice (some ⟨g, off, none⟩) (l.length + l2.length) cap) (l ++ l2) * R) → K (a.put o.dst (.slice (some ⟨g, off, none⟩) (l.length + l2.length) cap)) w') :
    if Region.wanted o (yielded ops a.tmps) = true then Oper.wp P o a w K Q else F := by
  have hw : Region.wanted o (yielded ops a.tmps) = true := by simp [Region.wanted, hg]
  rw [if_pos hw]
  exact wp_append_l s x ho T h hne hs hx hbytes hk
/-- 'append(v, x...)', x empty or not -/
theorem wpList_append_any {ops : Array Oper} {rest : List Oper} {o : Oper} {a : Act} {Q : Exit → Act → World → Prop} (hgd : o.guard = none) (s x : Operand)
    (ho : o.op = .call { callee := .builtin .append, args := #[s, x], argTypes := #[t, t] })
    (T : ETy P t E sz bytes enc) {v2 : Value} {l2 : List β} (h : St w0 w (LAt E sz enc v l * (LAt E sz enc v2 l2 * R)))
    (hs : a.eval s = v) (hx : a.eval x = v2) (hbytes : (l.length + l2.length) * bytes ≤ 140737488355328)
    (hk : ∀ v' w', St w0 w' (LAt E sz enc v' (l ++ l2) * R) → wpList P ops Q rest (a.put o.dst v') w') : wpList P ops Q (o :: rest) a w := by
  refine wpList_plain hgd fun K' hK' => ?_
  by_cases hne : l2 = []
  · subst hne
    obtain ⟨a1, c1, rfl, hc1, _⟩ := h.l_shape
    obtain ⟨a2, c2, rfl, _, _⟩ := h.f2.l_shape
    obtain ⟨z, hi, hz⟩ := T.info
    obtain ⟨i0, hi, _⟩ := info_parts hi
    have hr := run_append_none (P := P) (ty := o.type) w T.ht hi a1 a2 l.length c1 c2 hc1
    unfold Oper.wp execOp
    simp only [List.length_nil] at hx
    simp only [ho, resolve, invoke, builtin, Sem.run_bind, Sem.run_pure, Result.andThen_ok, List.map_toArray, List.map_cons, List.map_nil, hs, hx, hr]
    exact hK' _ _ (hk _ _ (by rw [List.append_nil]; exact h.f2.drop))
  · exact wp_append_l s x ho T h hne hs hx hbytes fun g off cap w' h' => hK' _ _ (hk _ _ h')
end
end Go.Proofs.YtoophfokbioaaaaDoor
