/- SourcePlays: same: are two rows of effects the same? -/
import Derived.Test.YtbnbknabedgpcaaSrcRE
namespace Go.Proofs.Ytbnbknabedgpcaa
open Go.RowKit

theorem St.l_lt {β : Type} {E : TypeId} {k g off n cap : Nat} {enc : β → List Value} {l : List β} {w0 w : World} {R : HP} (h : St w0 w (LAt E k enc (.slice (some ⟨g, off, none⟩) n cap) l * R)) (hl : l ≠ []) : g < w.heap.size := by
  rcases h.row with ⟨a0, hv, hn, _⟩ | ⟨g', off', cap', cur, hv, h1, h2, h3, h4, hs⟩
  · exact absurd (List.eq_nil_of_length_eq_zero hn) hl
  · simp only [Value.slice.injEq, Option.some.injEq, Addr.mk.injEq] at hv
    obtain ⟨⟨rfl, rfl, _⟩, rfl, rfl⟩ := hv
    exact hs.lt

set_option maxRecDepth 100000 in
set_option maxHeartbeats 1600000 in
theorem so_same (v1 v2 : Value) (l : List Ef) (hl : l.length ≤ 100000) (w0 w : World) (R : HP) (h : St w0 w (EAt v1 l * (LAt TE15 5 Ef.cells v2 l * R))) :
    Calls Try.prog 60 #[v1, v2] w fun e w' => e = .returned (.bool true) ∧ St w0 w' (EAt v1 l * (LAt TE15 5 Ef.cells v2 l * R)) := by
  obtain ⟨a1, c1, rfl, _, _⟩ := h.l_shape
  obtain ⟨a2, c2, rfl, _, _⟩ := h.f2.l_shape
  obtain ⟨n, hn⟩ : ∃ n, l.length = n := ⟨_, rfl⟩
  have hge : ∀ j : Nat, j < n → ∃ y, l[j]? = some y := fun j hj => ⟨_, List.getElem?_eq_getElem (by omega)⟩
  rw [hn] at h hl ⊢
  have HGE := Lib.hid hge
  clear hn hge
  go_enter Try.func60, Try.ntmps60
  go_wp2
  go_loopw [15] (fun i wr => ∃ j : Nat, j ≤ n ∧ i = .int .i64 j ∧ St w0 wr (EAt (.slice a1 n c1) l * (LAt TE15 5 Ef.cells (.slice a2 n c2) l * R))) (fun i _ => n - (intOf i).toNat)
  case atStart => exact ⟨0, by omega, rfl, h⟩
  case round =>
    clear h
    obtain ⟨j, hj, rfl, h2⟩ := hrel
    by_cases hlj : j < n
    · obtain ⟨⟨ek, ⟨em1, em2, em3⟩, et⟩, hy⟩ := HGE.out j hlj
      rcases h2.l_cells tyEf.len with ⟨h0, _⟩ | ⟨g1, o1, p1, hv1, _, _, hc1⟩
      · rw [h0] at hy; simp at hy
      rcases h2.f2.l_cells tyE15.len with ⟨h0, _⟩ | ⟨g2, o2, p2, hv2, _, _, hc2⟩
      · rw [h0] at hy; simp at hy
      simp only [Value.slice.injEq] at hv1 hv2
      obtain ⟨rfl, hq1, rfl⟩ := hv1
      obtain ⟨rfl, hq2, rfl⟩ := hv2
      clear hq1 hq2
      have d0 : wr.cell? ⟨g1, o1 + j * 5, none⟩ = some (.int .i64 ek) := hc1 j _ hy 0 _ rfl
      have d1 : wr.cell? ⟨g1, o1 + j * 5 + 1, none⟩ = some (.int .i64 em1) := hc1 j _ hy 1 _ rfl
      have d2 : wr.cell? ⟨g1, o1 + j * 5 + 2, none⟩ = some (.int .i64 em2) := hc1 j _ hy 2 _ rfl
      have d3 : wr.cell? ⟨g1, o1 + j * 5 + 3, none⟩ = some (.int .i64 em3) := hc1 j _ hy 3 _ rfl
      have d4 : wr.cell? ⟨g1, o1 + j * 5 + 4, none⟩ = some (.int .i64 et) := hc1 j _ hy 4 _ rfl
      have e0 : wr.cell? ⟨g2, o2 + j * 5, none⟩ = some (.int .i64 ek) := hc2 j _ hy 0 _ rfl
      have e1 : wr.cell? ⟨g2, o2 + j * 5 + 1, none⟩ = some (.int .i64 em1) := hc2 j _ hy 1 _ rfl
      have e2 : wr.cell? ⟨g2, o2 + j * 5 + 2, none⟩ = some (.int .i64 em2) := hc2 j _ hy 2 _ rfl
      have e3 : wr.cell? ⟨g2, o2 + j * 5 + 3, none⟩ = some (.int .i64 em3) := hc2 j _ hy 3 _ rfl
      have e4 : wr.cell? ⟨g2, o2 + j * 5 + 4, none⟩ = some (.int .i64 et) := hc2 j _ hy 4 _ rfl
      have hl1 : g1 < wr.heap.size := h2.l_lt (by rintro rfl; simp at hy)
      have hl2 : g2 < wr.heap.size := h2.f2.l_lt (by rintro rfl; simp at hy)
      have ne1 : (ek != ek) = false := by simp
      have ne2 : (em1 != em1) = false := by simp
      have ne3 : (em2 != em2) = false := by simp
      have ne4 : (em3 != em3) = false := by simp
      have ne5 : (et != et) = false := by simp
      have hji : (j : Int) < (n : Int) := by omega
      have H2 := Lib.hid h2
      clear hc1 hc2 hy h2
      go_upto_region 6 with fail
      go_region
      · go_wp2
        go_roundw
        case rel => exact ⟨j + 1, by omega, by go_num, St.drew (St.drop (St.drop (St.alloc (St.alloc H2.out _) _)))⟩
        case measure => simp [intOf]; omega
      · go_wp2
        go_roundw
        case rel => exact ⟨j + 1, by omega, by go_num, St.drew (St.drop (St.drop (St.alloc (St.alloc H2.out _) _)))⟩
        case measure => simp [intOf]; omega
    · go_wp2
      go_ret
      exact ⟨rfl, h2⟩
end Go.Proofs.Ytbnbknabedgpcaa
