/- append to a full slice that isn't ours, of things that aren't ours: a new one is made. -/
import Derived.Test.YtkcclijckpbobaaList
namespace Go.Proofs.Ytkcclijckpbobaa
open Go.RowKit

section
variable {P : Program} {w0 w : World} {R : HP} {E : TypeId} {sz : Nat}
theorem St.append_old {t ty : TypeId} {i : TypeInfo} {z : Value} {bytes : Nat} (h : St w0 w R) (ht : P.underlying t = some (.slice E)) (hi : P.info? E = some i) (hz : i.zero = some z)
    (hsize : i.size = sz) (hby : i.bytes = bytes) (hzs : z.cells.size = sz) (hsz : 0 < sz)
    (b : Option Addr) (n : Nat) (xs : List Value) (hlx : xs.length = n * sz) (hxs : 0 < n → ∃ b', b = some b' ∧ ∀ j u, xs[j]? = some u → w.cell? (b'.add j) = some u)
    (a : Addr) (m c : Nat) (news : List Value) (hm : 0 < m) (hl : news.length = m * sz) (hnews : ∀ j u, news[j]? = some u → w.cell? (a.add j) = some u) (h1 : ∀ u ∈ news, u.oneCell' = true)
    (h63 : n + m ≤ maxLen) (hbytes : (n + m) * bytes ≤ 140737488355328) :
    ∃ v' w', (Builtin.append_ #[t, t] ty #[.slice b n n, .slice (some a) m c]).run P w = .ok v' w' ∧ St w0 w' (Row E sz v' (n + m) (xs ++ news) * R) ∧ ∃ g off cap, v' = .slice (some ⟨g, off, none⟩) (n + m) cap := by
  by_cases h0 : n = 0
  · subst h0
    obtain rfl : xs = [] := List.eq_nil_of_length_eq_zero (by simpa using hlx)
    exact (h.row_nil E sz b).append ht hi hz hsize hby hzs hsz a m c news hm hl hnews h1 h63 hbytes
  · obtain ⟨b', rfl, hold⟩ := hxs (by omega)
    subst hsize
    subst hby
    have hsmall : n + m ≤ 9223372036854775807 := by simp only [maxLen] at h63; omega
    have hlen : (xs ++ news).length = (n + m) * i.size := by rw [List.length_append, hlx, hl, Nat.add_mul]
    have hr := run_append_grow (P := P) w t ty E i z ht hi hz b' n n xs hlx hold a m c news hl hnews (by omega) (by omega) (growslice_fits (by omega) hbytes)
    have hge := grownCap_ge w (n + m) n E
    have hcm : grownCap w (n + m) n E ≤ maxLen := grownCap_le_maxLen w (n + m) n E h63
    have hs := (h.drew.alloc (.cells (xs.toArray ++ news.toArray ++ Builtin.zeroCells z.cells (grownCap w (n + m) n E - (n + m))) E))
    refine ⟨_, _, hr, St.row_mk hs hlen hge hcm ?_ ?_, _, _, _, rfl⟩
    · simp only [Array.size_append, List.size_toArray, size_zeroCells, hzs, hlx, hl, ← Nat.add_mul, Nat.zero_add]
      exact Nat.le_of_eq (congrArg (· * i.size) (by omega))
    · intro j hj
      rw [Nat.zero_add, Array.getElem?_append_left (by simp only [Array.size_append, List.size_toArray]; rw [← List.length_append, hlen]; exact hj)]
      rw [List.append_toArray, List.getElem?_toArray]
end

section
variable {β : Type} {P : Program} {w0 w : World} {R : HP} {t E : TypeId} {sz bytes : Nat} {enc : β → List Value}
theorem flat_cells (T : ∀ b, (enc b).length = sz) (hsz : 0 < sz) {l : List β} {g off : Nat} (h : ∀ i x, l[i]? = some x → ∀ r u, (enc x)[r]? = some u → w.cell? ⟨g, off + i * sz + r, none⟩ = some u) :
    ∀ j u, (l.flatMap enc)[j]? = some u → w.cell? ((⟨g, off, none⟩ : Addr).add j) = some u := by
  intro j u hj
  have hjl : j < l.length * sz := by rw [← encs_len T]; exact (List.getElem?_eq_some_iff.1 hj).1
  have hq : j / sz < l.length := Nat.div_lt_of_lt_mul (by rw [Nat.mul_comm]; exact hjl)
  have hr : j % sz < sz := Nat.mod_lt _ hsz
  have he := encs_at T l (j / sz) l[j / sz] (j % sz) (List.getElem?_eq_getElem hq) hr
  rw [Nat.div_add_mod'] at he
  rw [hj] at he
  have := h (j / sz) _ (List.getElem?_eq_getElem hq) (j % sz) u he.symm
  rw [add_none]
  rw [Nat.add_assoc, Nat.div_add_mod'] at this
  exact this
theorem things_of {p : Nat → β → Prop} : ∀ n : Nat, (∀ i, i < n → ∃ x, p i x) → ∃ l : List β, l.length = n ∧ ∀ i x, l[i]? = some x → p i x
  | 0, _ => ⟨[], rfl, fun i x h => by simp at h⟩
  | n + 1, h => by
    obtain ⟨l, hl, hp⟩ := things_of n (fun i hi => h i (by omega))
    obtain ⟨x, hx⟩ := h n (by omega)
    refine ⟨l ++ [x], by simp [hl], fun i y hy => ?_⟩
    by_cases hi : i < n
    · rw [List.getElem?_append_left (by omega)] at hy
      exact hp i y hy
    · rw [List.getElem?_append_right (by omega)] at hy
      have : i - l.length = 0 := by
        have := (List.getElem?_eq_some_iff.1 hy).1
        simp at this
        omega
      rw [this] at hy
      simp at hy
      subst hy
      obtain rfl : i = n := by omega
      exact hx

theorem wp_append_old {o : Oper} {a : Act} {K : Act → World → Prop} {Q : Exit → Act → World → Prop} (s x : Operand)
    (ho : o.op = .call { callee := .builtin .append, args := #[s, x], argTypes := #[t, t] })
    (T : ETy P t E sz bytes enc) (h : St w0 w R) {b : Option Addr} {l l2 : List β}
    (hb : l ≠ [] → ∃ b', b = some b' ∧ ∀ j u, (l.flatMap enc)[j]? = some u → w.cell? (b'.add j) = some u)
    {a2 : Addr} {c : Nat} (h2 : ∀ j u, (l2.flatMap enc)[j]? = some u → w.cell? (a2.add j) = some u) (hne : l2 ≠ [])
    {n m : Nat} (hn : l.length = n) (hm : l2.length = m) (hs : a.eval s = .slice b n n) (hx : a.eval x = .slice (some a2) m c) (hbytes : (n + m) * bytes ≤ 140737488355328)
    (hk : ∀ g off cap w', St w0 w' (LAt E sz enc (.slice (some ⟨g, off, none⟩) (n + m) cap) (l ++ l2) * R) → K (a.put o.dst (.slice (some ⟨g, off, none⟩) (n + m) cap)) w') : o.wp P a w K Q := by
  subst hn hm
  obtain ⟨z, hi, hz⟩ := T.info
  obtain ⟨i0, hi, hz0, hz1, hz2⟩ := info_parts hi
  have hbp := T.bpos
  have hm : 0 < l2.length := by cases l2 with | nil => exact absurd rfl hne | cons _ _ => simp
  have h63 : l.length + l2.length ≤ maxLen := by
    have : (l.length + l2.length) * 1 ≤ (l.length + l2.length) * bytes := Nat.mul_le_mul_left _ hbp
    unfold maxLen
    omega
  obtain ⟨v', w', hr, h3, g, off, cap, rfl⟩ := h.append_old (P := P) (ty := o.type) T.ht hi hz0 hz1 hz2 hz T.pos b l.length (l.flatMap enc) (encs_len T.len l) (fun h0 => hb (by rintro rfl; simp at h0)) a2 l2.length c (l2.flatMap enc) hm (encs_len T.len l2) h2 (fun u hu => by
    obtain ⟨y, hy, hu'⟩ := List.mem_flatMap.1 hu
    exact T.one y u hu') h63 hbytes
  unfold Oper.wp execOp
  simp only [ho, resolve, invoke, builtin, Sem.run_bind, Sem.run_pure, Result.andThen_ok, List.map_toArray, List.map_cons, List.map_nil, hs, hx, hr]
  refine hk g off cap w' ?_
  unfold LAt
  rw [List.length_append, List.flatMap_append]
  exact h3
theorem step_wanted {ops : Array Oper} {o : Oper} {a : Act} {K : Act → World → Prop} {Q : Exit → Act → World → Prop} {F : Prop} (hg : o.guard = none) (h : Oper.wp P o a w K Q) :
    if Region.wanted o (yielded ops a.tmps) = true then Oper.wp P o a w K Q else F := by
  have hw : Region.wanted o (yielded ops a.tmps) = true := by simp [Region.wanted, hg]
  rw [if_pos hw]
  exact h
theorem wp_append_none {o : Oper} {a : Act} {K : Act → World → Prop} {Q : Exit → Act → World → Prop} (s x : Operand)
    (ho : o.op = .call { callee := .builtin .append, args := #[s, x], argTypes := #[t, t] })
    (T : ETy P t E sz bytes enc) {b b2 : Option Addr} {n cap c : Nat} (hn : n ≤ cap) (hs : a.eval s = .slice b n cap) (hx : a.eval x = .slice b2 0 c)
    (hk : K (a.put o.dst (.slice b n cap)) w) : o.wp P a w K Q := by
  obtain ⟨z, hi, hz⟩ := T.info
  obtain ⟨i0, hi, _⟩ := info_parts hi
  have hr := run_append_none (P := P) (ty := o.type) w T.ht hi b b2 n cap c hn
  unfold Oper.wp execOp
  simp only [ho, resolve, invoke, builtin, Sem.run_bind, Sem.run_pure, Result.andThen_ok, List.map_toArray, List.map_cons, List.map_nil, hs, hx, hr]
  exact hk
end
end Go.Proofs.Ytkcclijckpbobaa
