/- The clock: Stop, Next, Drop. -/
import Derived.Test.YtbnbknabedgpcaaClock
import Derived.StillTailTactics
namespace Go.Proofs.Ytbnbknabedgpcaa
open Go.RowKit

theorem mdel_absent {l : Tms} {k : Key} (h : mlook l k = none) : mdel l k = l := by
  induction l with
  | nil => rfl
  | cons p l ih =>
    unfold mlook at h
    unfold mdel
    by_cases hp : p.1 = k
    · rw [if_pos hp] at h; cases h
    · rw [if_neg hp] at h ⊢; rw [ih h]

set_option maxRecDepth 100000 in
theorem c_stop (c : Nat) (l : Tms) (k : Key) (hk : okK k) (w0 w : World) (R : HP) (h : St w0 w (CAt c l * R)) :
    Calls Try.prog 24 #[ptrC c, .agg #[.int .i64 k.1, .int .i64 k.2]] w fun e w' => e = .returned (.bool (mlook l k).isSome) ∧ St w0 w' (CAt c (mdel l k) * R) := by
  obtain ⟨k1, k2⟩ := k
  have h1 := h.alloc (.cells #[.int .i64 k1, .int .i64 k2] 43)
  have hr := c_runs c l (k1, k2) hk w0 _ _ h1.f2
  cases hl : mlook l (k1, k2) with
  | none =>
    rw [hl] at hr
    rw [mdel_absent hl]
    go_enter Try.func24, Try.ntmps24
    go_wp2_with fail
    refine hr.mono ?_
    rintro e w1 ⟨rfl, h2⟩
    go_wp2
    go_ret
    exact ⟨rfl, h2.f2.drop⟩
  | some t =>
    rw [hl] at hr
    go_enter Try.func24, Try.ntmps24
    go_wp2_with fail
    refine hr.mono ?_
    rintro e w1 ⟨rfl, h2⟩
    obtain ⟨b, h3⟩ := h2.c_open
    have c2 := h3.cell
    have c3 := h3.f3.cell
    have H3 := Lib.hid h3
    clear h1 h2 h3 h hr
    go_upto_region 3 with fail
    go_still_tail 5, (by kernel_rfl)
    change wpList _ _ _ _ _ w1.drew
    have h3 := H3.out.drew
    clear c2 c3 H3
    generalize w1.drew = w3 at *
    go_wp2_with (at_delete; refine wp_mdel rfl (.tmp 17) (.tmp 18) 39 43 rfl tyTill h3.f2 rfl (k1, k2) rfl hk ?_; intro w5 h6)
    go_ret
    exact ⟨rfl, h6.f2.f3.drop.c_shut⟩

/-- the first one's time -/
def NextIs (l : Tms) (f : Int) (b : Bool) : Prop := (l = [] ∧ f = 0 ∧ b = false) ∨ (b = true ∧ (∃ p ∈ l, p.2 = f) ∧ ∀ p ∈ l, f ≤ p.2)
/-- .. of those that aren't to come any more -/
def NextOf (l : Tms) (left : List Key) (f : Int) (b : Bool) : Prop :=
  if b = true then (∃ p ∈ l, p.1 ∉ left ∧ p.2 = f) ∧ ∀ p ∈ l, p.1 ∉ left → f ≤ p.2 else (∀ p ∈ l, p.1 ∈ left) ∧ f = 0

theorem mlook_mem' {α β : Type} [DecidableEq α] : ∀ {l : List (α × β)} {k : α} {v : β}, mlook l k = some v → (k, v) ∈ l
  | p :: l, k, v, h => by
    unfold mlook at h
    split at h
    · rename_i e
      simp at h
      subst e h
      simp
    · simp [mlook_mem' h]

theorem NextOf.step {l : Tms} {left : List Key} {f : Int} {b : Bool} (h : NextOf l left f b) {x : Key} {v : Int} (hn : (l.map (·.1)).Nodup) (hx : mlook l x = some v) :
    (b = false ∨ v < f → NextOf l (left.filter fun y => decide (y ≠ x)) v true) ∧ (b = true → f ≤ v → NextOf l (left.filter fun y => decide (y ≠ x)) f true) := by
  have hm := mlook_mem' hx
  have hu : ∀ p ∈ l, p.1 = x → p.2 = v := by
    intro p hp e
    obtain ⟨i, hi, rfl⟩ := List.getElem_of_mem hp
    have := mlook_at (k := x) (u := l[i].2) hn (j := i) (by rw [List.getElem?_eq_getElem hi, ← e])
    rw [hx] at this
    exact (Option.some.inj this).symm
  have hl : ∀ p : Key × Int, p.1 ∉ (left.filter fun y => decide (y ≠ x)) ↔ p.1 ∉ left ∨ p.1 = x := by
    intro p
    simp only [List.mem_filter, decide_eq_true_eq, not_and, Decidable.not_not]
    constructor
    · intro h; by_cases h' : p.1 ∈ left
      · exact .inr (h h')
      · exact .inl h'
    · rintro (h | h) h'
      · exact absurd h' h
      · exact h
  unfold NextOf at h ⊢
  constructor
  · intro hb
    rw [if_pos rfl]
    refine ⟨⟨(x, v), hm, (hl _).2 (.inr rfl), rfl⟩, fun p hp hpl => ?_⟩
    rcases (hl p).1 hpl with h1 | h1
    · split at h
      · rename_i hb'
        rcases hb with rfl | hb
        · cases hb'
        · have := h.2 p hp h1; omega
      · exact absurd (h.1 p hp) h1
    · rw [hu p hp h1]; omega
  · intro hb hv
    rw [if_pos rfl]
    rw [if_pos hb] at h
    obtain ⟨⟨q, hq, hql, hqf⟩, hall⟩ := h
    refine ⟨⟨q, hq, (hl _).2 (.inl hql), hqf⟩, fun p hp hpl => ?_⟩
    rcases (hl p).1 hpl with h1 | h1
    · exact hall p hp h1
    · rw [hu p hp h1]; exact hv

theorem NextOf.done {l : Tms} {f : Int} {b : Bool} (h : NextOf l [] f b) : NextIs l f b := by
  unfold NextOf at h
  split at h
  · rename_i hb
    obtain ⟨⟨q, hq, _, hf⟩, hall⟩ := h
    exact .inr ⟨hb, ⟨q, hq, hf⟩, fun p hp => hall p hp (by simp)⟩
  · rename_i hb
    refine .inl ⟨?_, h.2, by simpa using hb⟩
    cases l with
    | nil => rfl
    | cons p l => exact absurd (h.1 p (by simp)) (by simp)

theorem c_next (c : Nat) (l : Tms) (w0 w : World) (R : HP) (h : St w0 w (CAt c l * R)) :
    Calls Try.prog 20 #[ptrC c] w fun e w' => ∃ f b, e = .returned (.tuple #[.int .i64 f, .bool b]) ∧ NextIs l f b ∧ St w0 w' (CAt c l * R) := by
  obtain ⟨b, h1⟩ := h.c_open
  have c1 := h1.cell
  have hnd := h1.f2.map_nodup
  clear h
  go_enter Try.func20, Try.ntmps20
  go_wp2_with (at_range; refine wp_mrange rfl (.tmp 13) 39 rfl tyTill.ht h1.f2 rfl ?_; intro w2 r h2)
  go_frame
  go_loopw [4, 5] (fun s4 s5 wr => ∃ (left : List Key) (f : Int) (ok : Bool), s4 = .int .i64 f ∧ s5 = .bool ok ∧ NextOf l left f ok ∧ St w0 wr (RAt kKey vInt b r l left * (blk c (.cells #[.map (some b)] 107 (0, 0)) * R))) (fun _ _ wr => wr.rangeLeft b r)
  case atStart => exact ⟨l.map (·.1), 0, false, rfl, rfl, by unfold NextOf; simp; intro a b c h; exact ⟨c, h⟩, h2⟩
  case round =>
    clear h1 h2
    obtain ⟨left, f, ok, rfl, rfl, hN, h3⟩ := hrel
    have HN := Lib.hid hN
    clear hN
    have meas : ∀ (x : Key) (w4 : World), x ∈ left → St w0 w4 (RAt kKey vInt b r l (left.filter (fun y => decide (y ≠ x))) * (blk c (.cells #[.map (some b)] 107 (0, 0)) * R)) → w4.rangeLeft b r < wr.rangeLeft b r := by
      intro x w4 hx h4
      rw [h3.rmap_left, h4.rmap_left]
      exact List.length_filter_lt_length_iff_exists.2 ⟨x, hx, by simp⟩
    have MS := Lib.hid meas
    clear meas
    go_wp2_with (at_next; refine wp_mnext rfl (.tmp 14) rfl h3 rfl ?done ?more; (case' done => (intro hl0; subst hl0; have H3 := Lib.hid h3; clear h3)); (case' more => (intro x v w4 hx hv h4 hen; have HST := Lib.hid (HN.out.step hnd hv); have HM := Lib.hid (MS.out x w4 hx h4); have H4 := Lib.hid h4; clear h4 h3 hx)))
    all_goals first
      | (go_ret2; exact ⟨_, _, rfl, HN.out.done, H3.out.rmap_end.f2.c_shut⟩)
      | (refine ⟨?_, HM.out⟩
         first
          | exact ⟨_, _, _, rfl, rfl, HST.out.1 (.inr (by assumption)), H4.out⟩
          | exact ⟨_, _, _, rfl, rfl, HST.out.2 (by assumption) (by assumption), H4.out⟩
          | exact ⟨_, _, _, rfl, rfl, HST.out.1 (.inl (by simp_all)), H4.out⟩)

/-- Drop: whose timers go -/
def dropped (l : Tms) (o : Int) : Tms := l.filter fun p => decide (p.1.1 ≠ o)
def dropping (l : Tms) (o : Int) (left : List Key) : Tms := l.filter fun p => decide (p.1.1 ≠ o) || decide (p.1 ∈ left)

theorem mdel_filter {α β : Type} [DecidableEq α] {k : α} : ∀ {l : List (α × β)}, (l.map (·.1)).Nodup → mdel l k = l.filter fun p => decide (p.1 ≠ k)
  | [], _ => rfl
  | p :: l, h => by
    simp only [List.map_cons, List.nodup_cons] at h
    unfold mdel
    by_cases hp : p.1 = k
    · rw [if_pos hp, List.filter_cons_of_neg (by simp [hp])]
      rw [eq_comm, List.filter_eq_self]
      intro q hq
      simp only [decide_eq_true_eq]
      rintro rfl
      exact h.1 (List.mem_map.2 ⟨q, hq, hp.symm⟩)
    · rw [if_neg hp, List.filter_cons_of_pos (by simp [hp]), mdel_filter h.2]

theorem dropping_keep {l : Tms} {o : Int} {left : List Key} {x : Key} (h : x.1 ≠ o) : dropping l o (left.filter fun y => decide (y ≠ x)) = dropping l o left := by
  unfold dropping
  refine List.filter_congr fun p hp => ?_
  by_cases hx : p.1 = x
  · simp [hx, h]
  · simp [hx]
theorem dropping_drop {l : Tms} {o : Int} {left : List Key} {x : Key} (hn : (l.map (·.1)).Nodup) (h : x.1 = o) (hx : x ∈ left) : dropping l o (left.filter fun y => decide (y ≠ x)) = mdel (dropping l o left) x := by
  have hn2 : ((dropping l o left).map (·.1)).Nodup := (List.filter_sublist.map _).nodup hn
  rw [mdel_filter hn2]
  unfold dropping
  rw [List.filter_filter]
  refine List.filter_congr fun p hp => ?_
  by_cases hpx : p.1 = x
  · simp [hpx, h]
  · simp [hpx]

theorem mem_dropping {l : Tms} {o : Int} {left : List Key} {x : Key} {v : Int} (h : mlook (dropping l o left) x = some v) : (x, v) ∈ l := (List.mem_filter.1 (mlook_mem' h)).1

theorem mdel_length {α β : Type} [DecidableEq α] {k : α} : ∀ {l : List (α × β)} {v : β}, mlook l k = some v → (mdel l k).length + 1 = l.length
  | p :: l, v, h => by
    unfold mlook at h
    unfold mdel
    split at h
    · rename_i hp; rw [if_pos hp]; simp
    · rename_i hp; rw [if_neg hp]; simp [mdel_length h]

set_option maxRecDepth 100000 in
theorem c_drop (c : Nat) (l : Tms) (o : Int) (w0 w : World) (R : HP) (h : St w0 w (CAt c l * R)) (hl : l.length < 2 ^ 62) :
    Calls Try.prog 26 #[ptrC c, .int .i64 o] w fun e w' => e = .returned (.int .i64 ((l.length : Int) - (dropped l o).length)) ∧ St w0 w' (CAt c (dropped l o) * R) := by
  obtain ⟨b, h1⟩ := h.c_open
  have c1 := h1.cell
  have hnd := h1.f2.map_nodup
  clear h
  go_enter Try.func26, Try.ntmps26
  go_wp2_with (at_range; refine wp_mrange rfl (.tmp 12) 39 rfl tyTill.ht h1.f2 rfl ?_; intro w2 r h2)
  go_frame
  go_loopw [5] (fun s5 wr => ∃ (left : List Key), s5 = .int .i64 ((l.length : Int) - (dropping l o left).length) ∧ St w0 wr (RAt kKey vInt b r (dropping l o left) left * (blk c (.cells #[.map (some b)] 107 (0, 0)) * R))) (fun _ wr => wr.rangeLeft b r)
  case atStart =>
    have e : dropping l o (l.map (·.1)) = l := by
      unfold dropping
      rw [List.filter_eq_self]
      intro p hp
      simp
      exact .inr ⟨p.2, hp⟩
    refine ⟨l.map (·.1), ?_, ?_⟩
    · rw [e]; simp
    · rw [e]; exact h2
  case round =>
    clear h1 h2
    obtain ⟨left, rfl, h3⟩ := hrel
    have hlt := (h3.eq (star_left_comm _ _ _)).lt
    have meas : ∀ (x : Key) (w4 : World) (l' : Tms) (R' : HP), x ∈ left → St w0 w4 (RAt kKey vInt b r l' (left.filter (fun y => decide (y ≠ x))) * R') → w4.rangeLeft b r < wr.rangeLeft b r := by
      intro x w4 l' R' hx h4
      rw [h3.rmap_left, h4.rmap_left]
      exact List.length_filter_lt_length_iff_exists.2 ⟨x, hx, by simp⟩
    have MS := Lib.hid meas
    have hle : (dropping l o left).length ≤ l.length := List.length_filter_le _ _
    clear meas
    go_wp2_with (at_next; refine wp_mnext rfl (.tmp 13) rfl h3 rfl ?done ?more; (case' done => (intro hl0; subst hl0; have H3 := Lib.hid h3; clear h3)); (case' more => (intro x v w4 hx hv h4 hen0; obtain ⟨x1, x2⟩ := x; have hen : (Instr.entry (.pointer (some ⟨r, 0, none⟩))).run Try.prog w4 = .ok (.tuple #[.agg #[.int .i64 x1, .int .i64 x2], .int .i64 v]) w4 := hen0; have hlt4 := h4.f2.lt; have c4 := h4.f2.cell; have H4 := Lib.hid h4; have HX := Lib.hid hx; have HV := Lib.hid hv; clear h4 h3 hx hv hen0)))
    · have hxo : x1 = o := by simpa using ‹(x1 == o) = true›
      have h5 := (H4.out.alloc (.cells #[.int .i64 x1, .int .i64 x2] 43))
      have c5 := h5.cell
      have c6 := h5.f3.cell
      have hok := (H4.out.rmap).1 _ (mlook_mem' HV.out)
      subst hxo
      clear hen c4 hlt4
      generalize w4.alloc _ = w5 at *
      go_still_tail 5, (by kernel_rfl)
      change wpList _ _ _ _ _ w5.drew
      have h6 := h5.drew
      clear c5 c6
      generalize w5.drew = w6 at *
      have hll := mdel_length HV.out
      have e1 := dropping_drop (o := x1) (left := left) (x := (x1, x2)) hnd rfl HX.out
      have hm := MS.out
      have HE := Lib.hid e1
      have HL := Lib.hid hll
      have hbig : ((l.length : Int) - (dropping l x1 left).length) < 9223372036854775807 := by omega
      clear e1 hll
      go_wp2_with (at_delete; refine wp_mdel_range rfl (.tmp 25) (.tmp 26) 39 43 rfl tyTill h6.f2 rfl (x1, x2) rfl hok ?_; intro w7 h7)
      have h8 : St w0 w7 (RAt kKey vInt b r (dropping l x1 (left.filter fun y => decide (y ≠ (x1, x2)))) (left.filter fun y => decide (y ≠ (x1, x2))) * (blk c (.cells #[.map (some b)] 107 (0, 0)) * R)) := by
        rw [HE.out]
        have := h7.f2.drop
        simpa [List.filter_filter] using this
      refine ⟨⟨_, ?_, h8⟩, hm _ _ _ _ HX.out h8⟩
      rw [HE.out]
      have := HL.out
      exact congrArg (Value.int .i64) (by omega)
    · have hxo : x1 ≠ o := by simpa using ‹(x1 == o) = false›
      have h5 := (H4.out.alloc (.cells #[.int .i64 x1, .int .i64 x2] 43))
      rw [← dropping_keep (o := o) (left := left) (x := (x1, x2)) hxo] at h5
      refine ⟨⟨_, ?_, h5.drop⟩, MS.out _ _ _ _ HX.out h5.drop⟩
      rw [dropping_keep hxo]
    · go_ret
      have e : dropping l o [] = dropped l o := by simp [dropping, dropped]
      have h5 := H3.out.rmap_end.f2.c_shut
      rw [e] at h5 ⊢
      exact ⟨rfl, h5⟩
end Go.Proofs.Ytbnbknabedgpcaa
