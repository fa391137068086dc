/- SourceGives: the closure that takes down what is told. -/
import Derived.Test.YtbnbknabedgpcaaGives
namespace Go.Proofs.Ytbnbknabedgpcaa
open Go.RowKit

abbrev vBool (b : Bool) : Value := .bool b
abbrev BM := List (Int × Bool)
theorem tyBM : MTy Try.prog 93 3 4 kInt :=
  ⟨Try.underlying93, Maps.int_keyed Try.underlying3, fun _ h => ⟨_, Maps.keyOf_int_mk Try.underlying3 h⟩⟩
theorem zeroBool (w : World) : (zeroValue 4).run Try.prog w = .ok (.bool false) w := by kernel_rfl
def bOf (m : BM) (t : Int) : Bool := (mlook m t).getD false
theorem bOf_put (m : BM) (t : Int) (b : Bool) : bOf (mput m t b) = upd (bOf m) t b := by
  funext u
  unfold bOf upd
  split
  · rename_i h; rw [h, mlook_mput_same]; rfl
  · rename_i h; rw [mlook_mput_ne h]
theorem bOf_del {m : BM} (hn : (m.map (·.1)).Nodup) (t : Int) : bOf (mdel m t) = upd (bOf m) t false := by
  funext u
  unfold bOf upd
  split
  · rename_i h; rw [h, mlook_mdel_same hn]; rfl
  · rename_i h; rw [mlook_mdel_ne h]
def Tl.of (on runs : BM) : Tl := ⟨bOf on, bOf runs⟩
theorem St.bm {w0 w : World} {R : HP} {b : Nat} {m : BM} (h : St w0 w (MAt kInt vBool b m * R)) (t : Int) (hk : kInt.ok t) :
    (Instr.lookup 93 (.map (some b)) (.int .i64 t) false).run Try.prog w = .ok (.bool (bOf m t)) w := by
  have := h.map_look tyBM t hk (zeroBool _) false
  rw [show ((mlook m t).map vBool).getD (.bool false) = .bool (bOf m t) by unfold bOf; cases mlook m t <;> rfl] at this
  exact this
abbrev bvC (g b : Nat) : HP := blk g (.cells #[.map (some b)] 93 (0, 0))

theorem all_cons {e : Ef} {l : List Ef} {s s' : Tl} (h : Tl.all (e :: l) s = some s') : ∃ s1, s.step e = some s1 ∧ Tl.all l s1 = some s' := by
  unfold Tl.all at h
  cases hs : s.step e with
  | none => rw [hs] at h; cases h
  | some s1 => rw [hs] at h; exact ⟨s1, rfl, h⟩
theorem step_on {s s1 : Tl} {e : Ef} (h : s.step e = some s1) (hk : e.kind = 1 ∨ e.kind = 2) : s.f e.tei ≠ decide (e.kind = 1) ∧ s1 = ⟨upd s.f e.tei (decide (e.kind = 1)), s.g⟩ := by
  unfold Tl.step at h
  rw [if_pos hk] at h
  split at h
  · cases h
  · rename_i hne; exact ⟨hne, (Option.some.inj h).symm⟩
theorem step_3 {s s1 : Tl} {e : Ef} (h : s.step e = some s1) (hk : e.kind = 3) : s1 = ⟨s.f, upd s.g e.tei true⟩ := by
  unfold Tl.step at h
  rw [if_neg (by omega), if_pos hk] at h
  exact (Option.some.inj h).symm
theorem step_4 {s s1 : Tl} {e : Ef} (h : s.step e = some s1) (hk : e.kind = 4) : s.g e.tei = true ∧ s1 = ⟨s.f, upd s.g e.tei false⟩ := by
  unfold Tl.step at h
  rw [if_neg (by omega), if_neg (by omega), if_pos hk] at h
  split at h
  · rename_i hg; exact ⟨hg, (Option.some.inj h).symm⟩
  · cases h
theorem step_0 {s s1 : Tl} {e : Ef} (h : s.step e = some s1) (h1 : ¬ (e.kind = 1 ∨ e.kind = 2)) (h3 : e.kind ≠ 3) (h4 : e.kind ≠ 4) : s1 = s := by
  unfold Tl.step at h
  rw [if_neg h1, if_neg h3, if_neg h4] at h
  exact (Option.some.inj h).symm


set_option maxRecDepth 100000 in
set_option maxHeartbeats 1600000 in
theorem look1 (g1 g2 ob rb : Nat) (l : List Ef) (on runs : BM) (s' : Tl) (v : Value) (w0 w : World) (R : HP) (hl : l.length ≤ 100000) (hko : ∀ e ∈ l, kInt.ok e.tei) (hall : Tl.all l (Tl.of on runs) = some s') (hru : ∀ p ∈ runs, p.2 = true)
    (h : St w0 w (EAt v l * (bvC g1 ob * (bvC g2 rb * (MAt kInt vBool ob on * (MAt kInt vBool rb runs * R)))))) :
    Calls Try.prog 38 #[v, ptr g1, ptr g2] w fun e w' => e = .returned (.bool true) ∧ ∃ on' runs', Tl.of on' runs' = s' ∧ (∀ p ∈ runs', p.2 = true) ∧ St w0 w' (EAt v l * (bvC g1 ob * (bvC g2 rb * (MAt kInt vBool ob on' * (MAt kInt vBool rb runs' * R))))) := by
  obtain ⟨av, cv, rfl, _, _⟩ := h.l_shape
  obtain ⟨n, hn⟩ : ∃ n, l.length = n := ⟨_, rfl⟩
  have hge : ∀ j : Nat, j < n → ∃ e, l[j]? = some e ∧ kInt.ok e.tei ∧ l.drop j = e :: l.drop (j + 1) := fun j hj => by
    have e : l[j]? = some l[j] := List.getElem?_eq_getElem (by omega)
    exact ⟨l[j], e, hko _ (List.mem_of_getElem? e), List.drop_eq_getElem_cons (by omega)⟩
  have hen : ∀ j : Nat, j = n → l.drop j = [] := fun j hj => List.drop_eq_nil_of_le (by omega)
  rw [hn] at h hl
  rw [hn]
  have HGE := Lib.hid hge
  have HEN := Lib.hid hen
  have HALL := Lib.hid hall
  have HRU := Lib.hid hru
  clear hge hen hn hko hall hru
  go_enter Try.func38, Try.ntmps38
  go_wp2
  go_loopw [9] (fun i wr => ∃ (j : Nat) (on runs : BM), j ≤ n ∧ i = .int .i64 j ∧ Hid (Tl.all (l.drop j) (Tl.of on runs) = some s') ∧ Hid (∀ p ∈ runs, p.2 = true) ∧ St w0 wr (EAt (.slice av n cv) l * (bvC g1 ob * (bvC g2 rb * (MAt kInt vBool ob on * (MAt kInt vBool rb runs * R)))))) (fun i _ => n - (intOf i).toNat)
  case atStart => exact ⟨0, on, runs, by omega, rfl, HALL, HRU, h⟩
  case round =>
    clear h HALL HRU
    obtain ⟨j, on, runs, hj, rfl, HR, HP, h⟩ := hrel
    by_cases hlt : j < n
    · obtain ⟨e, he, hk, hd⟩ := HGE.out j hlt
      have hr := HR.out
      rw [hd] at hr
      obtain ⟨s1, hs1, hr1⟩ := all_cons hr
      clear hr
      obtain ⟨ek, ⟨em1, em2, em3⟩, et⟩ := e
      simp only [] at hk
      rcases h.l_cells tyEf.len with ⟨h0, _⟩ | ⟨g, off, cap, hv, _, _, hcell⟩
      · rw [h0] at he; simp at he
      simp only [Value.slice.injEq] at hv
      obtain ⟨rfl, hq, rfl⟩ := hv
      clear hq
      have d0 := hcell _ _ he 0 _ rfl
      have d1 := hcell _ _ he 1 _ rfl
      have d2 := hcell _ _ he 2 _ rfl
      have d3 := hcell _ _ he 3 _ rfl
      have d4 := hcell _ _ he 4 _ rfl
      try simp only [Nat.add_zero] at d0
      have h2 := h.alloc (.cells #[.int .i64 ek, .int .i64 em1, .int .i64 em2, .int .i64 em3, .int .i64 et] 32)
      clear hcell he hd HR h
      have hkb := hk
      go_upto_region 4 with fail
      generalize wr.alloc _ = w2 at *
      generalize wr.heap.size = ge at *
      have k0 : w2.cell? ⟨ge, 0, none⟩ = some (.int .i64 ek) := h2.cell 0
      have k4 : w2.cell? ⟨ge, 4, none⟩ = some (.int .i64 et) := h2.cell 4
      have m1 : w2.cell? ⟨g1, 0, none⟩ = some (.map (some ob)) := h2.f3.cell 0
      have m2 : w2.cell? ⟨g2, 0, none⟩ = some (.map (some rb)) := h2.f4.cell 0
      have h3 := h2.drop
      have lon := h3.f4.bm et hk
      have lru := h3.f5.bm et hk
      have hnr := h3.f5.map_nodup
      have H3 := Lib.hid h3
      clear h2 h3 d0 d1 d2 d3 d4
      by_cases k12 : ek = 1 ∨ ek = 2
      · obtain ⟨hne, hs⟩ := step_on hs1 k12
        subst hs
        simp only [Tl.of] at hne
        rcases k12 with rfl | rfl
        · have hq : bOf on et = false := by simpa using hne
          rw [hq] at lon
          have HR := Lib.hid hr1
          clear hr1 hs1 hnr hne hq
          go_wp2_with (at_mapUpdate; refine wp_mput rfl (.tmp 26) (.tmp 28) (.tmp 31) 93 rfl tyBM H3.out.f4 rfl et rfl hk true rfl ?_; intro w5 h4)
          go_roundw
          case rel => exact ⟨j + 1, mput on et true, runs, by omega, by go_num, by unfold Tl.of; rw [bOf_put]; exact HR.out, HP, h4.b4⟩
          case measure => simp [intOf]; omega
        · have hq : bOf on et = true := by simpa using hne
          rw [hq] at lon
          have HR := Lib.hid hr1
          clear hr1 hs1 hnr hne hq
          go_wp2_with (at_mapUpdate; refine wp_mput rfl (.tmp 26) (.tmp 28) (.tmp 31) 93 rfl tyBM H3.out.f4 rfl et rfl hk false rfl ?_; intro w5 h4)
          go_roundw
          case rel => exact ⟨j + 1, mput on et false, runs, by omega, by go_num, by unfold Tl.of; rw [bOf_put]; exact HR.out, HP, h4.b4⟩
          case measure => simp [intOf]; omega
      by_cases k3 : ek = 3
      · have hs := step_3 hs1 k3
        subst hs k3
        have HR := Lib.hid hr1
        clear hr1 hs1 hnr k12
        go_wp2_with (at_mapUpdate; refine wp_mput rfl (.tmp 34) (.tmp 36) (.const (Value.bool true)) 93 rfl tyBM H3.out.f5 rfl et rfl hk true rfl ?_; intro w5 h4)
        go_roundw
        case rel => exact ⟨j + 1, on, mput runs et true, by omega, by go_num, by unfold Tl.of; rw [bOf_put]; exact HR.out, fun p hp => by rcases mput_mem hp with hp | hp; exact HP.out p hp; rw [hp], h4.b5⟩
        case measure => simp [intOf]; omega
      by_cases k4' : ek = 4
      · obtain ⟨hg, hs⟩ := step_4 hs1 k4'
        subst hs k4'
        simp only [Tl.of] at hg
        rw [hg] at lru
        have HR := Lib.hid hr1
        have HNR := Lib.hid hnr
        clear hr1 hs1 hnr k12 k3
        go_wp2_with (at_delete; refine wp_mdel rfl (.tmp 44) (.tmp 46) 93 3 rfl tyBM H3.out.f5 rfl et rfl hk ?_; intro w5 h4)
        go_roundw
        case rel => exact ⟨j + 1, on, mdel runs et, by omega, by go_num, by unfold Tl.of; rw [bOf_del HNR.out]; exact HR.out, fun p hp => HP.out p ((mdel_sublist _).subset hp), h4.b5⟩
        case measure => simp [intOf]; omega
      · have hs := step_0 hs1 k12 k3 k4'
        subst hs
        have HR := Lib.hid hr1
        have b1 : (ek == 1) = false := by simp; omega
        have b2 : (ek == 2) = false := by simp; omega
        have b3 : (ek == 3) = false := by simp; omega
        have b4 : (ek == 4) = false := by simp; omega
        clear hr1 hs1 hnr k12 k3 k4'
        go_wp2
        go_roundw
        case rel => exact ⟨j + 1, on, runs, by omega, by go_num, HR.out, HP, H3.out⟩
        case measure => simp [intOf]; omega
    · have hr := HR.out
      rw [HEN.out j (by omega)] at hr
      have hr2 : Tl.of on runs = s' := by simpa [Tl.all] using hr
      clear hr
      go_wp2
      go_ret
      exact ⟨rfl, on, runs, hr2, HP.out, h⟩
end Go.Proofs.Ytbnbknabedgpcaa
