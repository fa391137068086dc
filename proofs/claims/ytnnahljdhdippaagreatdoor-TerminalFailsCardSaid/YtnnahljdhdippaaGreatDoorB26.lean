/- A terminal: ofLink, for effects that ask for no TEI. A terminal: ofUser; ofLink for an effect that asks for a TEI. -/
import Derived.Test.YtnnahljdhdippaaGreatDoorB25
import Derived.Test.YtnnahljdhdippaaGreatDoorB24
namespace Go.Proofs.YtnnahljdhdippaaGreatDoor
open Go.RowKit

/-- an effect that a terminal can do without its user -/
structure Fx.Can (y : Fx) : Prop where
  no8 : y.kind ≠ 8
  put : y.kind = 0 → PutOk y.fr
  key : okK (0, y.timer)
theorem links0_snoc (x : Tt) (l : List Fx) (y : Fx) : x.links0 (l ++ [y]) = (x.links0 l).link0 y := by unfold Tt.links0; rw [List.foldl_append]; rfl
theorem link0_len (x : Tt) (y : Fx) : (x.link0 y).sent.length ≤ x.sent.length + 1 ∧ (x.link0 y).told.length ≤ x.told.length + 1 := by
  unfold Tt.link0
  split
  · simp only [Tt.send, List.length_append, List.length_singleton]; omega
  · split
    · simp only [Tt.start]; omega
    · split
      · simp only [Tt.stop]; omega
      · simp only [Tt.tell, List.length_append, List.length_singleton]; omega
theorem links0_len : ∀ (l : List Fx) (x : Tt), (x.links0 l).sent.length ≤ x.sent.length + l.length ∧ (x.links0 l).told.length ≤ x.told.length + l.length
  | [], _ => ⟨Nat.le_refl _, Nat.le_refl _⟩
  | y :: l, x => by
    have h1 := link0_len x y
    have h2 := links0_len l (x.link0 y)
    rw [List.length_cons]
    show ((x.link0 y).links0 l).sent.length ≤ _ ∧ ((x.link0 y).links0 l).told.length ≤ _
    omega
set_option maxRecDepth 100000 in
set_option maxHeartbeats 1600000 in
theorem t_links0 (t e u c p : Nat) (x : Tt) (v : Value) (l : List Fx) (hc : ∀ y ∈ l, y.Can) (hl0 : l.length ≤ 1000000) (hl : x.sent.length + x.told.length + l.length ≤ 1000000000000) (w0 w : World) (R : HP) (hN : ∀ w', St w0 w' R → NamesAt w') (hF : ∀ w', St w0 w' R → FirstAt w')
    (h : St w0 w (LAt TFx 11 Fx.cells v l * (TtAt t e u c p x * R))) :
    Calls Tryz.prog 43 #[ptr t, v] w fun r w' => r = .returned (.tuple #[]) ∧ St w0 w' (LAt TFx 11 Fx.cells v l * (TtAt t e u c p (x.links0 l) * R)) := by
  obtain ⟨n, hn⟩ : ∃ n, l.length = n := ⟨_, rfl⟩
  have sh := h.l_shape
  rw [hn] at sh
  obtain ⟨a, cap, rfl, hcap, hmax⟩ := sh
  have HH := Lib.hid h
  have HC := Lib.hid hc
  have HL := Lib.hid hl
  have HN := Lib.hid hN
  have HF := Lib.hid hF
  have HNn := Lib.hid hn
  have hn9 : n ≤ 1000000 := by omega
  clear h hc hl hl0 hN hF hn
  go_enter Tryz.func43, Tryz.ntmps43
  go_wp2
  go_loopw [10] (fun s10 wr => ∃ i : Nat, i ≤ n ∧ s10 = .int .i64 i ∧ Hid (St w0 wr (LAt TFx 11 Fx.cells (.slice a n cap) l * (TtAt t e u c p (x.links0 (l.take i)) * R)))) (fun s10 _ => n - (intOf s10).toNat)
  case atStart => exact ⟨0, by omega, rfl, HH⟩
  case round =>
    clear HH
    obtain ⟨i, hi, rfl, HI⟩ := hrel
    by_cases hlt : i < n
    · have hil : i < l.length := by have := HNn.out; omega
      obtain ⟨y, hy⟩ : ∃ y, l[i]? = some y := ⟨l[i], List.getElem?_eq_getElem hil⟩
      have htk : x.links0 (l.take (i + 1)) = (x.links0 (l.take i)).link0 y := by
        rw [List.take_add_one, hy, Option.toList_some, links0_snoc]
      have hcan := HC.out y (List.mem_of_getElem? hy)
      obtain ⟨s1, s2⟩ := links0_len (l.take i) x
      have s3 : (l.take i).length = i := by rw [List.length_take]; omega
      have hll := HL.out
      have hnn := HNn.out
      generalize x.links0 (l.take i) = z at *
      rcases HI.out.l_cells tyFx.len with ⟨h0, _⟩ | ⟨g, off, cap', hv, _, _, hcell⟩
      · rw [h0] at hil; exact absurd hil (by simp)
      · simp only [Value.slice.injEq] at hv
        obtain ⟨rfl, hq, rfl⟩ := hv
        clear hq
        have hce := hcell i y hy
        obtain ⟨kd, ⟨f1, f2, f3, f4, f5, f6, f7, f8⟩, dt, tm⟩ := y
        have d0 : wr.cell? ⟨g, off + i * 11, none⟩ = some (.int .i64 kd) := hce 0 _ rfl
        have d1 : wr.cell? ⟨g, off + i * 11 + 1, none⟩ = some (.int .i64 f1) := hce 1 _ rfl
        have d2 : wr.cell? ⟨g, off + i * 11 + 2, none⟩ = some (.int .i64 f2) := hce 2 _ rfl
        have d3 : wr.cell? ⟨g, off + i * 11 + 3, none⟩ = some (.bool f3) := hce 3 _ rfl
        have d4 : wr.cell? ⟨g, off + i * 11 + 4, none⟩ = some (.int .i64 f4) := hce 4 _ rfl
        have d5 : wr.cell? ⟨g, off + i * 11 + 5, none⟩ = some (.bool f5) := hce 5 _ rfl
        have d6 : wr.cell? ⟨g, off + i * 11 + 6, none⟩ = some (.int .i64 f6) := hce 6 _ rfl
        have d7 : wr.cell? ⟨g, off + i * 11 + 7, none⟩ = some (.int .i64 f7) := hce 7 _ rfl
        have d8 : wr.cell? ⟨g, off + i * 11 + 8, none⟩ = some (.string f8) := hce 8 _ rfl
        have d9 : wr.cell? ⟨g, off + i * 11 + 9, none⟩ = some (.string dt) := hce 9 _ rfl
        have d10 : wr.cell? ⟨g, off + i * 11 + 10, none⟩ = some (.int .i64 tm) := hce 10 _ rfl
        have HT := Lib.hid htk
        have hd := HI.out.alloc (.cells #[.int .i64 kd, .int .i64 f1, .int .i64 f2, .bool f3, .int .i64 f4, .bool f5, .int .i64 f6, .int .i64 f7, .string f8, .string dt, .int .i64 tm] TFx)
        have hsz := Lib.hid (show z.sent.length ≤ 1000000000000 ∧ z.told.length ≤ 1000000000000 by omega)
        have hcan := Lib.hid hcan
        clear htk hce hcell hy hil s1 s2 s3 hll hnn
        go_upto_region 3 with fail
        clear d0 d1 d2 d3 d4 d5 d6 d7 d8 d9 d10
        generalize wr.alloc _ = w2 at *
        generalize wr.heap.size = gy at *
        have c2 := hd.cell
        by_cases k0 : kd = 0
        · have hs := t_send t e u c p z ⟨f1, f2, f3, f4, f5, f6, f7, f8⟩ (hcan.out.put k0) hsz.out.1 w0 w2 _ (fun w' h => HN.out w' h.drop.drop) (fun w' h => HF.out w' h.drop.drop) (hd.eq (show _ = TtAt t e u c p z * (blk gy _ * (LAt TFx 11 Fx.cells (.slice (some ⟨g, off, none⟩) n cap) l * R)) by ac_rfl))
          have hz : z.link0 ⟨kd, ⟨f1, f2, f3, f4, f5, f6, f7, f8⟩, dt, tm⟩ = z.send ⟨f1, f2, f3, f4, f5, f6, f7, f8⟩ := by unfold Tt.link0; rw [if_pos k0]
          rw [hz] at HT
          subst k0
          clear HI hz hd
          go_wp2_with fail
          refine hs.mono ?_
          rintro e w5 ⟨rfl, h5⟩
          have h6 := (h5.eq (show _ = blk gy _ * (LAt TFx 11 Fx.cells (.slice (some ⟨g, off, none⟩) n cap) l * (TtAt t e u c p _ * R)) by ac_rfl)).drop
          clear c2 hs h5
          go_wp2
          go_roundw
          case rel =>
            refine ⟨i + 1, by omega, by go_num, Lib.hid ?_⟩
            rw [HT.out]
            exact h6
          case measure => simp [intOf]; omega
        have q0 : (kd == 0) = false := by simp [k0]
        by_cases k9 : kd = 9
        · have hs := t_start t e u c p z tm hcan.out.key w0 w2 _ (hd.eq (show _ = TtAt t e u c p z * (blk gy _ * (LAt TFx 11 Fx.cells (.slice (some ⟨g, off, none⟩) n cap) l * R)) by ac_rfl))
          have hz : z.link0 ⟨kd, ⟨f1, f2, f3, f4, f5, f6, f7, f8⟩, dt, tm⟩ = z.start tm := by unfold Tt.link0; rw [if_neg k0, if_pos k9]
          rw [hz] at HT
          subst k9
          clear HI hz hd k0 q0
          go_wp2_with fail
          refine hs.mono ?_
          rintro e w5 ⟨rfl, h5⟩
          have h6 := (h5.eq (show _ = blk gy _ * (LAt TFx 11 Fx.cells (.slice (some ⟨g, off, none⟩) n cap) l * (TtAt t e u c p _ * R)) by ac_rfl)).drop
          clear c2 hs h5
          go_wp2
          go_roundw
          case rel =>
            refine ⟨i + 1, by omega, by go_num, Lib.hid ?_⟩
            rw [HT.out]
            exact h6
          case measure => simp [intOf]; omega
        have q9 : (kd == 9) = false := by simp [k9]
        by_cases k10 : kd = 10
        · have hz : z.link0 ⟨kd, ⟨f1, f2, f3, f4, f5, f6, f7, f8⟩, dt, tm⟩ = z.stop tm := by unfold Tt.link0; rw [if_neg k0, if_neg k9, if_pos k10]
          rw [hz] at HT
          obtain ⟨sv, tv, h1⟩ := (hd.eq (show _ = TtAt t e u c p z * (blk gy _ * (LAt TFx 11 Fx.cells (.slice (some ⟨g, off, none⟩) n cap) l * R)) by ac_rfl)).tt_open
          have e1 : w2.drew.cell? ⟨t, 8, none⟩ = some (ptrC c) := (h1.drew.cell 8).trans rfl
          have e2 : w2.drew.cell? ⟨gy, 10, none⟩ = some (.int .i64 tm) := (hd.drew.cell 10).trans rfl
          have hs := c_stop c z.c (0, tm) hcan.out.key w0 w2.drew _ h1.f4.drew
          subst k10
          clear HI hz hd k0 q0 k9 q9
          go_upto_region 10 with fail
          refine wp_region_held_drew (S := fun wx => wx.cell? ⟨t, 8, none⟩ = some (ptrC c) ∧ wx.cell? ⟨gy, 10, none⟩ = some (.int .i64 tm)) (by kernel_rfl) ⟨e1, e2⟩ (fun hHeld => ?_)
          clear e1 e2 c2 h1
          generalize w2.drew = wd at *
          refine wpAnyH_take (i := 0) (oi := { dst := some 46, op := Op.move (Operand.tmp 0), type := 30, pos := "terminal.go:102", after := #[], guard := none }) (v := ?_) rfl (by kernel_rfl) (by kernel_rfl) (by kernel_rfl) (fun _ _ _ h => h) (Or.inl ⟨by rfl, ?_⟩) (by assumption) ?_
          rotate_left 1
          · intro w hSw
            try dsimp only at hSw
            go_simp
            try with_reducible rfl
          try simp only [Act.put, List.setIfInBounds_toArray, List.set_cons_zero, List.set_cons_succ]
          refine wpAnyH_take (i := 1) (oi := { dst := some 47, op := Op.nilCheck (Operand.tmp 46), type := 0, pos := "terminal.go:102", after := #[{ on := 0, ground := Ground.data }], guard := none }) (v := ?_) rfl (by kernel_rfl) (by kernel_rfl) (by kernel_rfl) (fun _ _ _ h => h) (Or.inl ⟨by rfl, ?_⟩) (by assumption) ?_
          rotate_left 1
          · intro w hSw
            try dsimp only at hSw
            go_simp
            try with_reducible rfl
          try simp only [Act.put, List.setIfInBounds_toArray, List.set_cons_zero, List.set_cons_succ]
          refine wpAnyH_take (i := 2) (oi := { dst := some 48, op := Op.fieldAddr 107 (Operand.tmp 47) 3, type := 0, pos := "terminal.go:102", after := #[{ on := 1, ground := Ground.data }], guard := none }) (v := ?_) rfl (by kernel_rfl) (by kernel_rfl) (by kernel_rfl) (fun _ _ _ h => h) (Or.inl ⟨by rfl, ?_⟩) (by assumption) ?_
          rotate_left 1
          · intro w hSw
            try dsimp only at hSw
            go_simp
            try with_reducible rfl
          try simp only [Act.put, List.setIfInBounds_toArray, List.set_cons_zero, List.set_cons_succ]
          refine wpAnyH_take (i := 3) (oi := { dst := some 49, op := Op.load 104 (Operand.tmp 48), type := 104, pos := "terminal.go:102", after := #[{ on := 2, ground := Ground.data }], guard := none }) (v := ?_) rfl (by kernel_rfl) (by kernel_rfl) (by kernel_rfl) (fun _ _ _ h => h) (Or.inl ⟨by rfl, ?_⟩) (by assumption) ?_
          rotate_left 1
          · intro w hSw
            try dsimp only at hSw
            go_simp
            try with_reducible rfl
          try simp only [Act.put, List.setIfInBounds_toArray, List.set_cons_zero, List.set_cons_succ]
          refine wpAnyH_take (i := 4) (oi := { dst := some 50, op := Op.fieldAddr 220 (Operand.tmp 5) 3, type := 0, pos := "terminal.go:102", after := #[], guard := none }) (v := ?_) rfl (by kernel_rfl) (by kernel_rfl) (by kernel_rfl) (fun _ _ _ h => h) (Or.inl ⟨by rfl, ?_⟩) (by assumption) ?_
          rotate_left 1
          · intro w hSw
            try dsimp only at hSw
            go_simp
            try with_reducible rfl
          try simp only [Act.put, List.setIfInBounds_toArray, List.set_cons_zero, List.set_cons_succ]
          refine wpAnyH_take (i := 5) (oi := { dst := some 51, op := Op.load 3 (Operand.tmp 50), type := 3, pos := "terminal.go:102", after := #[{ on := 4, ground := Ground.data }], guard := none }) (v := ?_) rfl (by kernel_rfl) (by kernel_rfl) (by kernel_rfl) (fun _ _ _ h => h) (Or.inl ⟨by rfl, ?_⟩) (by assumption) ?_
          rotate_left 1
          · intro w hSw
            try dsimp only at hSw
            go_simp
            try with_reducible rfl
          try simp only [Act.put, List.setIfInBounds_toArray, List.set_cons_zero, List.set_cons_succ]
          refine wpAnyH_take (i := 6) (oi := { dst := some 52, op := Op.build 186 #[(1, Operand.tmp 51)], type := 186, pos := "terminal.go:102", after := #[{ on := 5, ground := Ground.data }], guard := none }) (v := ?_) rfl (by kernel_rfl) (by kernel_rfl) (by kernel_rfl) (fun _ _ _ h => h) (Or.inl ⟨by rfl, ?_⟩) (by assumption) ?_
          rotate_left 1
          · intro w hSw
            try dsimp only at hSw
            go_simp
            try with_reducible rfl
          try simp only [Act.put, List.setIfInBounds_toArray, List.set_cons_zero, List.set_cons_succ]
          refine wpAnyH_ready (rs := [7]) (by kernel_rfl) (by simp) ?_
          refine AllReadyH.cons (o := { dst := some 53, op := Op.call { callee := Callee.value (Operand.func 90), args := #[Operand.tmp 49, Operand.tmp 52], argTypes := #[104, 186] }, type := 4, pos := "terminal.go:102", after := #[{ on := 3, ground := Ground.data }, { on := 6, ground := Ground.data }], guard := none }) rfl (fun K hK => ?_) ?_
          rotate_left 1
          · exact AllReadyH.nil
          go_simp
          go_at_call 90
          refine hs.mono ?_
          rintro r w5 ⟨rfl, h5⟩
          have c5 := (h5.eq (show _ = blk t _ * (blk gy _ * (CAt c _ * (EnAt e z.e * (UsAt u z.u * (DeAt p z.d * (LAt 9 1 encS sv z.sent * (LAt TTold 2 tolC tv z.told * (LAt TFx 11 Fx.cells (.slice (some ⟨g, off, none⟩) n cap) l * R)))))))) by ac_rfl))
          go_simp
          refine hK.out _ _ ⟨(c5.cell 8).trans rfl, (c5.f2.cell 10).trans rfl⟩ (fun hHeld => ?_)
          clear hK K
          try simp only [Act.put, List.setIfInBounds_toArray, List.set_cons_zero, List.set_cons_succ]
          refine wpAnyH_done (by kernel_rfl) ?_ _
          have h6 : St w0 w5 (TtAt t e u c p (z.stop tm) * (LAt TFx 11 Fx.cells (.slice (some ⟨g, off, none⟩) n cap) l * R)) := St.tt_shut (x := z.stop tm) (e := e) (u := u) (c := c) (p := p) (sv := sv) (tv := tv) (c5.f2.drop.eq (show _ = blk t _ * (EnAt e z.e * (UsAt u z.u * (CAt c _ * (DeAt p z.d * (LAt 9 1 encS sv z.sent * (LAt TTold 2 tolC tv z.told * (LAt TFx 11 Fx.cells (.slice (some ⟨g, off, none⟩) n cap) l * R))))))) by ac_rfl))
          have h7 := h6.f2
          clear c5 h5 hs h6 hHeld
          go_wp2
          go_roundw
          case rel =>
            refine ⟨i + 1, by omega, by go_num, Lib.hid ?_⟩
            rw [HT.out]
            exact h7
          case measure => simp [intOf]; omega
        have q10 : (kd == 10) = false := by simp [k10]
        have q8 : (kd == 8) = false := by simp; exact hcan.out.no8
        have hz : z.link0 ⟨kd, ⟨f1, f2, f3, f4, f5, f6, f7, f8⟩, dt, tm⟩ = z.tell kd dt := by unfold Tt.link0; rw [if_neg k0, if_neg k9, if_neg k10]
        rw [hz] at HT
        obtain ⟨sv, tv, h1⟩ := (hd.eq (show _ = TtAt t e u c p z * (blk gy _ * (LAt TFx 11 Fx.cells (.slice (some ⟨g, off, none⟩) n cap) l * R)) by ac_rfl)).tt_open
        have h2 := h1
        have c3 := h2.cell
        have cy := hd.cell
        have h3 := h2.alloc (.cells #[.int .i64 kd, .string dt] TTold)
        have c4 := h3.f2.cell
        have HX := ((h3.l_mk (enc := tolC) (sz := 2) tyTold.len [(kd, dt)] 1 rfl rfl (by decide)).eq (show _ = LAt TTold 2 tolC tv z.told * (LAt TTold 2 tolC (.slice (some ⟨w2.heap.size, 0, none⟩) 1 1) [(kd, dt)] * (blk t _ * (EnAt e z.e * (UsAt u z.u * (CAt c z.c * (DeAt p z.d * (LAt 9 1 encS sv z.sent * (blk gy _ * (LAt TFx 11 Fx.cells (.slice (some ⟨g, off, none⟩) n cap) l * R))))))))) by ac_rfl)).drew
        have hle : (z.told.length + [(kd, dt)].length) * 24 ≤ 140737488355328 := by have := hsz.out.2; show (z.told.length + 1) * 24 ≤ _; omega
        have c5 := (hd.alloc (.cells #[.int .i64 kd, .string dt] TTold)).f2.cell
        obtain ⟨nt, hnt⟩ : ∃ nt, z.told.length = nt := ⟨_, rfl⟩
        clear HI hz k0 k9 k10 h1 h2 h3
        go_upto_region 4 with fail
        clear c2
        go_region_law (refine step_append_l rfl (.tmp 21) (.tmp 27) rfl tyTold HX (by simp) rfl rfl hle ?_; intro g2 off2 cap2 w8 h12; have c8 := h12.f2.cell; have f8 := h12.f2.free)
        all_goals
          rw [hnt] at h12
          have h13 := h12.f2.set 12 (.slice (some ⟨g2, off2, none⟩) (nt + 1) cap2)
          generalize w8.setCell _ _ = w9 at *
          have h14 := (h13.eq (show _ = blk gy _ * (blk t _ * (EnAt e z.e * (UsAt u z.u * (CAt c z.c * (DeAt p z.d * (LAt 9 1 encS sv z.sent * (LAt TTold 2 tolC (.slice (some ⟨g2, off2, none⟩) (nt + 1) cap2) (z.told ++ [(kd, dt)]) * (LAt TFx 11 Fx.cells (.slice (some ⟨g, off, none⟩) n cap) l * R)))))))) by ac_rfl)).drop
          have h15 : St w0 w9 (TtAt t e u c p (z.tell kd dt) * (LAt TFx 11 Fx.cells (.slice (some ⟨g, off, none⟩) n cap) l * R)) := St.tt_shut (x := z.tell kd dt) (e := e) (u := u) (c := c) (p := p) (sv := sv) (tv := .slice (some ⟨g2, off2, none⟩) (nt + 1) cap2) h14
          have h16 := h15.f2
          clear c3 cy c4 c5 c8 f8 HX h12 h13 h14 h15 hnt
          go_wp2
          go_roundw
          case rel =>
            refine ⟨i + 1, by omega, by go_num, Lib.hid ?_⟩
            rw [HT.out]
            exact h16
          case measure => simp [intOf]; omega
    · obtain rfl : i = n := by omega
      have hz := HI.out
      rw [List.take_of_length_le (by have := HNn.out; omega)] at hz
      clear HI
      go_wp2
      go_end0
      exact ⟨rfl, hz⟩
end Go.Proofs.YtnnahljdhdippaaGreatDoor

namespace Go.Proofs.YtnnahljdhdippaaGreatDoor
open Go.RowKit

theorem users_snoc (x : Tt) (l : List Ue) (y : Ue) : x.users (l ++ [y]) = (x.users l).user1 y := by unfold Tt.users; rw [List.foldl_append]; rfl
theorem can_of {t : Int} {l : List Fx} (h : Fxs t l) (ht : l ≠ [] → t ≤ 126) : ∀ y ∈ l, y.Can := fun y hy => by
  obtain ⟨⟨h0, h1, h2⟩, h3⟩ := h y hy
  have ht := ht (fun e => by rw [e] at hy; cases hy)
  have ok : ∀ t : Int, t = 0 ∨ t = 200 ∨ t = 203 → okK (0, t) := fun t ht => by rcases ht with rfl | rfl | rfl <;> exact ⟨by decide, by decide⟩
  refine ⟨h2, fun k0 => ?_, ok _ (h1.imp (fun e => e.1) id)⟩
  have f := h0 k0
  have t0 := h3 k0
  exact ⟨by rw [f.sapi]; decide, by rw [f.sapi]; decide, by rw [f.tei]; exact t0, by rw [f.tei]; omega, f.may, f.car, f.ns0, f.ns1, f.nr0, f.nr1⟩
theorem ok202 : okK (0, 202) := ⟨by decide, by decide⟩
set_option maxRecDepth 100000 in
set_option maxHeartbeats 1600000 in
theorem t_users (t e u c p : Nat) (x : Tt) (v : Value) (l : List Ue) (hu : Uxs l) (hfit : x.Fit) (hl0 : l.length ≤ 1000) (hl : x.len + 100000 * l.length ≤ 900000000000) (w0 w : World) (R : HP) (hN : ∀ w', St w0 w' R → NamesAt w') (hF : ∀ w', St w0 w' R → FirstAt w') (hL : ∀ w', St w0 w' R → LinkAt w')
    (h : St w0 w (LAt TUe 5 Ue.cells v l * (TtAt t e u c p x * R))) :
    Calls Tryz.prog 64 #[ptr t, v] w fun r w' => r = .returned (.tuple #[]) ∧ St w0 w' (LAt TUe 5 Ue.cells v l * (TtAt t e u c p (x.users l) * R)) := by
  obtain ⟨n, hn⟩ : ∃ n, l.length = n := ⟨_, rfl⟩
  have sh := h.l_shape
  rw [hn] at sh
  obtain ⟨a, cap, rfl, hcap, hmax⟩ := sh
  have HH := Lib.hid h
  have HU := Lib.hid hu
  have HL := Lib.hid hl
  have HN := Lib.hid hN
  have HF := Lib.hid hF
  have HK := Lib.hid hL
  have HI0 := Lib.hid hfit
  have HNn := Lib.hid hn
  have hn9 : n ≤ 1000 := by omega
  clear h hu hl hl0 hN hF hL hfit hn
  go_enter Tryz.func64, Tryz.ntmps64
  go_wp2
  go_loopw [14] (fun s14 wr => ∃ i : Nat, i ≤ n ∧ s14 = .int .i64 i ∧ Hid (St w0 wr (LAt TUe 5 Ue.cells (.slice a n cap) l * (TtAt t e u c p (x.users (l.take i)) * R)))) (fun s14 _ => n - (intOf s14).toNat)
  case atStart => exact ⟨0, by omega, rfl, HH⟩
  case round =>
    clear HH
    obtain ⟨i, hi, rfl, HI⟩ := hrel
    by_cases hlt : i < n
    · have hil : i < l.length := by have := HNn.out; omega
      obtain ⟨y, hy⟩ : ∃ y, l[i]? = some y := ⟨l[i], List.getElem?_eq_getElem hil⟩
      have htk : x.users (l.take (i + 1)) = (x.users (l.take i)).user1 y := by
        rw [List.take_add_one, hy, Option.toList_some, users_snoc]
      have hcan := HU.out y (List.mem_of_getElem? hy)
      obtain ⟨s1, s2⟩ := fit_users (l.take i) HI0.out
      have s3 : (l.take i).length = i := by rw [List.length_take]; omega
      have hll := HL.out
      have hnn := HNn.out
      generalize x.users (l.take i) = z at *
      have hsz := Lib.hid (show z.Fit ∧ z.sent.length ≤ 900000000000 ∧ z.sent.length + z.told.length ≤ 900000000000 by unfold Tt.len at s2 hll; exact ⟨s1, by omega, by omega⟩)
      rcases HI.out.l_cells tyUe.len with ⟨h0, _⟩ | ⟨g, off, cap', hv, _, _, hcell⟩
      · rw [h0] at hil; exact absurd hil (by simp)
      · simp only [Value.slice.injEq] at hv
        obtain ⟨rfl, hq, rfl⟩ := hv
        clear hq
        have hce := hcell i y hy
        obtain ⟨kd, ⟨f1, f2, f3⟩, tm⟩ := y
        have d0 : wr.cell? ⟨g, off + i * 5, none⟩ = some (.int .i64 kd) := hce 0 _ rfl
        have d1 : wr.cell? ⟨g, off + i * 5 + 1, none⟩ = some (.int .i64 f1) := hce 1 _ rfl
        have d2 : wr.cell? ⟨g, off + i * 5 + 2, none⟩ = some (.int .i64 f2) := hce 2 _ rfl
        have d3 : wr.cell? ⟨g, off + i * 5 + 3, none⟩ = some (.int .i64 f3) := hce 3 _ rfl
        have d4 : wr.cell? ⟨g, off + i * 5 + 4, none⟩ = some (.int .i64 tm) := hce 4 _ rfl
        have HT := Lib.hid htk
        have hd := HI.out.alloc (.cells #[.int .i64 kd, .int .i64 f1, .int .i64 f2, .int .i64 f3, .int .i64 tm] TUe)
        have hcan := Lib.hid hcan
        clear htk hce hcell hy hil s1 s2 s3 hll hnn
        go_upto_region 3 with fail
        clear d0 d1 d2 d3 d4
        generalize wr.alloc _ = w2 at *
        generalize wr.heap.size = gy at *
        have c2 := hd.cell
        by_cases k0 : kd = 0
        · have hb := hcan.out.1 k0
          have hm := m_frame ⟨f1, f2, f3⟩ w0 w2 _ (fun w' h => HK.out w' h.drop.drop.drop) hd
          rw [hb] at hm
          have hz : z.user1 ⟨kd, ⟨f1, f2, f3⟩, tm⟩ = z.send (Tm.fr ⟨f1, f2, f3⟩) := by unfold Tt.user1; rw [if_pos k0]
          rw [hz] at HT
          have hput := Lib.hid (tm_fr hb).1
          generalize Tm.fr ⟨f1, f2, f3⟩ = fr at *
          obtain ⟨a1, a2, cmd, k, pf, ns, nr, inf⟩ := fr
          simp only [Fr.cells, Tm.cells] at *
          subst k0
          clear HI hz hb
          go_upto_region 8 with (go_at_call 78; refine hm.mono ?_; rintro e w5 ⟨rfl, h5⟩)
          clear hm c2
          have h6 := h5.alloc (.cells #[.int .i64 a1, .int .i64 a2, .bool cmd, .int .i64 k, .bool pf, .int .i64 ns, .int .i64 nr, .string inf] TFr)
          generalize w5.alloc _ = w6 at *
          generalize w5.heap.size = gf at *
          have c6 := h6.cell
          have hs := t_send t e u c p z ⟨a1, a2, cmd, k, pf, ns, nr, inf⟩ hput.out (by have := hsz.out.2.1; omega) w0 w6 _ (fun w' h => HN.out w' h.drop.drop.drop) (fun w' h => HF.out w' h.drop.drop.drop) (h6.eq (show _ = TtAt t e u c p z * (blk gf _ * (blk gy _ * (LAt TUe 5 Ue.cells (.slice (some ⟨g, off, none⟩) n cap) l * R))) by ac_rfl))
          simp only [Fr.cells] at hs
          clear h5 hd
          go_wp2_with fail
          refine hs.mono ?_
          rintro e w7 ⟨rfl, h7⟩
          have h8 := (h7.eq (show _ = blk gf _ * (blk gy _ * (LAt TUe 5 Ue.cells (.slice (some ⟨g, off, none⟩) n cap) l * (TtAt t e u c p _ * R))) by ac_rfl)).drop.drop
          clear c6 hs h6 h7
          go_wp2
          go_roundw
          case rel =>
            refine ⟨i + 1, by omega, by go_num, Lib.hid ?_⟩
            rw [HT.out]
            exact h8
          case measure => simp [intOf]; omega
        have q0 : (kd == 0) = false := by simp [k0]
        by_cases k4 : kd = 4
        · have hs := t_start t e u c p z 202 ok202 w0 w2 _ (hd.eq (show _ = TtAt t e u c p z * (blk gy _ * (LAt TUe 5 Ue.cells (.slice (some ⟨g, off, none⟩) n cap) l * R)) by ac_rfl))
          have hz : z.user1 ⟨kd, ⟨f1, f2, f3⟩, tm⟩ = z.start 202 := by unfold Tt.user1; rw [if_neg k0, if_pos k4]
          rw [hz] at HT
          subst k4
          clear HI hz hd k0 q0
          go_wp2_with fail
          refine hs.mono ?_
          rintro e w5 ⟨rfl, h5⟩
          have h6 := (h5.eq (show _ = blk gy _ * (LAt TUe 5 Ue.cells (.slice (some ⟨g, off, none⟩) n cap) l * (TtAt t e u c p _ * R)) by ac_rfl)).drop
          clear c2 hs h5
          go_wp2
          go_roundw
          case rel =>
            refine ⟨i + 1, by omega, by go_num, Lib.hid ?_⟩
            rw [HT.out]
            exact h6
          case measure => simp [intOf]; omega
        have q4 : (kd == 4) = false := by simp [k4]
        obtain ⟨sv, tv, h1⟩ := (hd.eq (show _ = TtAt t e u c p z * (blk gy _ * (LAt TUe 5 Ue.cells (.slice (some ⟨g, off, none⟩) n cap) l * R)) by ac_rfl)).tt_open
        by_cases k5 : kd = 5
        · have hz : z.user1 ⟨kd, ⟨f1, f2, f3⟩, tm⟩ = z.stop 202 := by unfold Tt.user1; rw [if_neg k0, if_neg k4, if_pos k5]
          rw [hz] at HT
          have hs := c_stop c z.c (0, 202) ok202 w0 w2 _ h1.f4
          have c3 := h1.cell
          subst k5
          clear HI hz hd k0 q0 k4 q4
          go_wp2_with fail
          refine hs.mono ?_
          rintro r w5 ⟨rfl, h5⟩
          have h6 : St w0 w5 (TtAt t e u c p (z.stop 202) * (blk gy _ * (LAt TUe 5 Ue.cells (.slice (some ⟨g, off, none⟩) n cap) l * R))) := St.tt_shut (x := z.stop 202) (e := e) (u := u) (c := c) (p := p) (sv := sv) (tv := tv) (h5.eq (by ac_rfl))
          have h7 := (h6.eq (show _ = blk gy _ * (LAt TUe 5 Ue.cells (.slice (some ⟨g, off, none⟩) n cap) l * (TtAt t e u c p _ * R)) by ac_rfl)).drop
          clear c2 c3 hs h1 h5 h6
          go_wp2
          go_roundw
          case rel =>
            refine ⟨i + 1, by omega, by go_num, Lib.hid ?_⟩
            rw [HT.out]
            exact h7
          case measure => simp [intOf]; omega
        have q5 : (kd == 5) = false := by simp [k5]
        by_cases k1 : kd = 1
        · have hz : z.user1 ⟨kd, ⟨f1, f2, f3⟩, tm⟩ = (z.setE (z.e.assign tm).1).links0 (z.e.assign tm).2.1 := by unfold Tt.user1; rw [if_neg k0, if_neg k4, if_neg k5, if_pos k1]
          rw [hz] at HT
          have fe := hsz.out.1.e
          obtain ⟨fa, fb, fc⟩ := fit_assign fe tm
          have ln := assign_len z.e (out0 fe) fe.ok.b.un tm
          have HA := Lib.hid (And.intro (can_of fb fc) ln)
          have ha := e_assign e z.e tm fe.ok.b.fl (by have := fe.ok.b.un; omega) (by rw [fe.out]; decide) w0 w2.drew _ h1.f2.drew
          have e1 : w2.drew.cell? ⟨t, 6, none⟩ = some (ptr e) := (h1.drew.cell 6).trans rfl
          have e2 : w2.drew.cell? ⟨gy, 4, none⟩ = some (.int .i64 tm) := (hd.drew.cell 4).trans rfl
          generalize z.e.assign tm = A at *
          obtain ⟨A1, A2, A3⟩ := A
          simp only [] at ha HA HT
          subst k1
          clear HI hz hd k0 q0 k4 q4 k5 q5 fe fa fb fc ln
          go_upto_region 14 with fail
          refine wp_region_held_drew (S := fun wx => wx.cell? ⟨t, 6, none⟩ = some (ptr e) ∧ wx.cell? ⟨gy, 4, none⟩ = some (.int .i64 tm)) (by kernel_rfl) ⟨e1, e2⟩ (fun hHeld => ?_)
          clear e1 e2 c2 h1
          generalize w2.drew = wd at *
          refine wpAnyH_take (i := 0) (oi := { dst := some 57, op := Op.move (Operand.tmp 0), type := 30, pos := "terminal.go:124", after := #[], guard := none }) (v := ?_) rfl (by kernel_rfl) (by kernel_rfl) (by kernel_rfl) (fun _ _ _ h => h) (Or.inl ⟨by rfl, ?_⟩) (by assumption) ?_
          rotate_left 1
          · intro w hSw
            try dsimp only at hSw
            go_simp
            try with_reducible rfl
          try simp only [Act.put, List.setIfInBounds_toArray, List.set_cons_zero, List.set_cons_succ]
          refine wpAnyH_take (i := 1) (oi := { dst := some 58, op := Op.nilCheck (Operand.tmp 57), type := 0, pos := "terminal.go:124", after := #[{ on := 0, ground := Ground.data }], guard := none }) (v := ?_) rfl (by kernel_rfl) (by kernel_rfl) (by kernel_rfl) (fun _ _ _ h => h) (Or.inl ⟨by rfl, ?_⟩) (by assumption) ?_
          rotate_left 1
          · intro w hSw
            try dsimp only at hSw
            go_simp
            try with_reducible rfl
          try simp only [Act.put, List.setIfInBounds_toArray, List.set_cons_zero, List.set_cons_succ]
          refine wpAnyH_take (i := 2) (oi := { dst := some 59, op := Op.fieldAddr 107 (Operand.tmp 58) 1, type := 0, pos := "terminal.go:124", after := #[{ on := 1, ground := Ground.data }], guard := none }) (v := ?_) rfl (by kernel_rfl) (by kernel_rfl) (by kernel_rfl) (fun _ _ _ h => h) (Or.inl ⟨by rfl, ?_⟩) (by assumption) ?_
          rotate_left 1
          · intro w hSw
            try dsimp only at hSw
            go_simp
            try with_reducible rfl
          try simp only [Act.put, List.setIfInBounds_toArray, List.set_cons_zero, List.set_cons_succ]
          refine wpAnyH_take (i := 3) (oi := { dst := some 60, op := Op.load 98 (Operand.tmp 59), type := 98, pos := "terminal.go:124", after := #[{ on := 2, ground := Ground.data }], guard := none }) (v := ?_) rfl (by kernel_rfl) (by kernel_rfl) (by kernel_rfl) (fun _ _ _ h => h) (Or.inl ⟨by rfl, ?_⟩) (by assumption) ?_
          rotate_left 1
          · intro w hSw
            try dsimp only at hSw
            go_simp
            try with_reducible rfl
          try simp only [Act.put, List.setIfInBounds_toArray, List.set_cons_zero, List.set_cons_succ]
          refine wpAnyH_take (i := 4) (oi := { dst := some 61, op := Op.fieldAddr 270 (Operand.tmp 5) 2, type := 0, pos := "terminal.go:124", after := #[], guard := none }) (v := ?_) rfl (by kernel_rfl) (by kernel_rfl) (by kernel_rfl) (fun _ _ _ h => h) (Or.inl ⟨by rfl, ?_⟩) (by assumption) ?_
          rotate_left 1
          · intro w hSw
            try dsimp only at hSw
            go_simp
            try with_reducible rfl
          try simp only [Act.put, List.setIfInBounds_toArray, List.set_cons_zero, List.set_cons_succ]
          refine wpAnyH_take (i := 5) (oi := { dst := some 62, op := Op.load 3 (Operand.tmp 61), type := 3, pos := "terminal.go:124", after := #[{ on := 4, ground := Ground.data }], guard := none }) (v := ?_) rfl (by kernel_rfl) (by kernel_rfl) (by kernel_rfl) (fun _ _ _ h => h) (Or.inl ⟨by rfl, ?_⟩) (by assumption) ?_
          rotate_left 1
          · intro w hSw
            try dsimp only at hSw
            go_simp
            try with_reducible rfl
          try simp only [Act.put, List.setIfInBounds_toArray, List.set_cons_zero, List.set_cons_succ]
          refine wpAnyH_ready (rs := [6]) (by kernel_rfl) (by simp) ?_
          refine AllReadyH.cons (o := { dst := some 63, op := Op.call { callee := Callee.value (Operand.func 129), args := #[Operand.tmp 60, Operand.tmp 62], argTypes := #[98, 3] }, type := 132, pos := "terminal.go:124", after := #[{ on := 3, ground := Ground.data }, { on := 5, ground := Ground.data }], guard := none }) rfl (fun K hK => ?_) ?_
          rotate_left 1
          · exact AllReadyH.nil
          go_simp
          go_at_call 129
          refine ha.mono ?_
          rintro r w5 ⟨v5, rfl, h5⟩
          have c5 := h5.eq (show _ = blk t (.cells (z.cells e u c p sv tv) TTt (0, 0)) * (blk gy _ * (LAt TFx 11 Fx.cells v5 A2 * (EnAt e A1 * (UsAt u z.u * (CAt c z.c * (DeAt p z.d * (LAt 9 1 encS sv z.sent * (LAt TTold 2 tolC tv z.told * (LAt TUe 5 Ue.cells (.slice (some ⟨g, off, none⟩) n cap) l * R))))))))) by ac_rfl)
          clear h5 ha
          go_simp
          refine hK.out _ _ ⟨(c5.cell 6).trans rfl, (c5.f2.cell 4).trans rfl⟩ (fun hHeld => ?_)
          clear hK K
          try simp only [Act.put, List.setIfInBounds_toArray, List.set_cons_zero, List.set_cons_succ]
          refine wpAnyH_take (i := 7) (oi := { dst := some 56, op := Op.move (Operand.tmp 63), type := 132, pos := "terminal.go:124", after := #[{ on := 6, ground := Ground.data }], guard := none }) (v := ?_) rfl (by kernel_rfl) (by kernel_rfl) (by kernel_rfl) (fun _ _ _ h => h) (Or.inl ⟨by rfl, ?_⟩) (by assumption) ?_
          rotate_left 1
          · intro w hSw
            try dsimp only at hSw
            go_simp
            try with_reducible rfl
          try simp only [Act.put, List.setIfInBounds_toArray, List.set_cons_zero, List.set_cons_succ]
          refine wpAnyH_take (i := 8) (oi := { dst := some 64, op := Op.extract (Operand.tmp 56) 0, type := 131, pos := "terminal.go:124", after := #[{ on := 7, ground := Ground.data }], guard := none }) (v := ?_) rfl (by kernel_rfl) (by kernel_rfl) (by kernel_rfl) (fun _ _ _ h => h) (Or.inl ⟨by rfl, ?_⟩) (by assumption) ?_
          rotate_left 1
          · intro w hSw
            try dsimp only at hSw
            go_simp
            try with_reducible rfl
          try simp only [Act.put, List.setIfInBounds_toArray, List.set_cons_zero, List.set_cons_succ]
          refine wpAnyH_take (i := 9) (oi := { dst := some 65, op := Op.extract (Operand.tmp 56) 1, type := 31, pos := "terminal.go:124", after := #[{ on := 7, ground := Ground.data }, { on := 10, ground := Ground.gcOnly Departure.lateStores }], guard := none }) (v := ?_) rfl (by kernel_rfl) (by kernel_rfl) (by kernel_rfl) (fun _ _ _ h => h) (Or.inl ⟨by rfl, ?_⟩) (by assumption) ?_
          rotate_left 1
          · intro w hSw
            try dsimp only at hSw
            go_simp
            try with_reducible rfl
          try simp only [Act.put, List.setIfInBounds_toArray, List.set_cons_zero, List.set_cons_succ]
          refine wpAnyH_take (i := 10) (oi := { dst := some 8, op := Op.assign (Operand.tmp 64), type := 131, pos := "terminal.go:124", after := #[{ on := 8, ground := Ground.data }, { on := 6, ground := Ground.chain }, { on := 0, ground := Ground.phase }, { on := 1, ground := Ground.phase }, { on := 2, ground := Ground.phase }, { on := 3, ground := Ground.phase }, { on := 4, ground := Ground.phase }, { on := 5, ground := Ground.phase }, { on := 6, ground := Ground.phase }, { on := 7, ground := Ground.phase }, { on := 8, ground := Ground.phase }, { on := 9, ground := Ground.textOnly Departure.lateStores }], guard := none }) (v := ?_) rfl (by kernel_rfl) (by kernel_rfl) (by kernel_rfl) (fun _ _ _ h => h) (Or.inl ⟨by rfl, ?_⟩) (by assumption) ?_
          rotate_left 1
          · intro w hSw
            try dsimp only at hSw
            go_simp
            try with_reducible rfl
          try simp only [Act.put, List.setIfInBounds_toArray, List.set_cons_zero, List.set_cons_succ]
          refine wpAnyH_take (i := 11) (oi := { dst := some 9, op := Op.assign (Operand.tmp 65), type := 31, pos := "terminal.go:124", after := #[{ on := 9, ground := Ground.data }, { on := 10, ground := Ground.chain }, { on := 0, ground := Ground.phase }, { on := 1, ground := Ground.phase }, { on := 2, ground := Ground.phase }, { on := 3, ground := Ground.phase }, { on := 4, ground := Ground.phase }, { on := 5, ground := Ground.phase }, { on := 6, ground := Ground.phase }, { on := 7, ground := Ground.phase }, { on := 8, ground := Ground.phase }, { on := 9, ground := Ground.phase }, { on := 10, ground := Ground.phase }], guard := none }) (v := ?_) rfl (by kernel_rfl) (by kernel_rfl) (by kernel_rfl) (fun _ _ _ h => h) (Or.inl ⟨by rfl, ?_⟩) (by assumption) ?_
          rotate_left 1
          · intro w hSw
            try dsimp only at hSw
            go_simp
            try with_reducible rfl
          try simp only [Act.put, List.setIfInBounds_toArray, List.set_cons_zero, List.set_cons_succ]
          refine wpAnyH_done (by kernel_rfl) ?_ _
          clear hHeld
          have h6 : St w0 w5 (TtAt t e u c p (z.setE A1) * (LAt TFx 11 Fx.cells v5 A2 * (LAt TUe 5 Ue.cells (.slice (some ⟨g, off, none⟩) n cap) l * R))) := St.tt_shut (x := z.setE A1) (e := e) (u := u) (c := c) (p := p) (sv := sv) (tv := tv) (c5.f2.drop.eq (by ac_rfl))
          have hs := t_links0 t e u c p (z.setE A1) v5 A2 HA.out.1 (by have := HA.out.2; omega) (by have h1 := HA.out.2; have h2 := hsz.out.2.2; show z.sent.length + z.told.length + A2.length ≤ _; omega) w0 w5 _ (fun w' h => HN.out w' h.drop) (fun w' h => HF.out w' h.drop) (h6.eq (show _ = LAt TFx 11 Fx.cells v5 A2 * (TtAt t e u c p (z.setE A1) * (LAt TUe 5 Ue.cells (.slice (some ⟨g, off, none⟩) n cap) l * R)) by ac_rfl))
          clear c5 h6
          go_wp2_with fail
          refine hs.mono ?_
          rintro er w7 ⟨rfl, h7⟩
          have h8 := h7.drop.f2
          clear hs h7
          go_wp2
          go_roundw
          case rel =>
            refine ⟨i + 1, by omega, by go_num, Lib.hid ?_⟩
            rw [HT.out]
            exact h8
          case measure => simp [intOf]; omega
        have q1 : (kd == 1) = false := by simp [k1]
        have hz : z.user1 ⟨kd, ⟨f1, f2, f3⟩, tm⟩ = (z.setE z.e.remove.1).links0 z.e.remove.2.1 := by unfold Tt.user1; rw [if_neg k0, if_neg k4, if_neg k5, if_neg k1]
        rw [hz] at HT
        have fe := hsz.out.1.e
        obtain ⟨fa, fb⟩ := fit_remove fe
        have ln := remove_len z.e (out0 fe)
        have HA := Lib.hid (And.intro (can_of fb (fun _ => fe.wd.t)) ln)
        have ha := e_remove e z.e fe.ok.b.fl fe.out w0 w2 _ h1.f2
        have c3 := h1.cell
        generalize z.e.remove = A at *
        obtain ⟨A1, A2, A3⟩ := A
        simp only [] at ha HA HT
        clear HI hz hd k0 k4 k5 k1 fe fa fb ln
        go_upto_region 5 with (go_at_call 68; refine ha.mono ?_; rintro er w5 ⟨v5, rfl, h5⟩)
        clear ha c2 c3 h1
        have h6 : St w0 w5 (TtAt t e u c p (z.setE A1) * (LAt TFx 11 Fx.cells v5 A2 * (blk gy _ * (LAt TUe 5 Ue.cells (.slice (some ⟨g, off, none⟩) n cap) l * R)))) := St.tt_shut (x := z.setE A1) (e := e) (u := u) (c := c) (p := p) (sv := sv) (tv := tv) (h5.eq (by ac_rfl))
        have h7 := (h6.eq (show _ = blk gy _ * (LAt TFx 11 Fx.cells v5 A2 * (TtAt t e u c p (z.setE A1) * (LAt TUe 5 Ue.cells (.slice (some ⟨g, off, none⟩) n cap) l * R))) by ac_rfl)).drop
        have hs := t_links0 t e u c p (z.setE A1) v5 A2 HA.out.1 (by have := HA.out.2; omega) (by have h1 := HA.out.2; have h2 := hsz.out.2.2; show z.sent.length + z.told.length + A2.length ≤ _; omega) w0 w5 _ (fun w' h => HN.out w' h.drop) (fun w' h => HF.out w' h.drop) h7
        clear h5 h6 h7
        go_wp2_with fail
        refine hs.mono ?_
        rintro er w7 ⟨rfl, h8⟩
        have h9 := h8.drop.f2
        clear hs h8
        go_wp2
        go_roundw
        case rel =>
          refine ⟨i + 1, by omega, by go_num, Lib.hid ?_⟩
          rw [HT.out]
          exact h9
        case measure => simp [intOf]; omega
    · obtain rfl : i = n := by omega
      have hz := HI.out
      rw [List.take_of_length_le (by have := HNn.out; omega)] at hz
      clear HI
      go_wp2
      go_end0
      exact ⟨rfl, hz⟩
set_option maxRecDepth 100000 in
set_option maxHeartbeats 1600000 in
/-- the one effect that asks for a TEI -/
theorem t_wish (t e u c p : Nat) (x : Tt) (v : Value) (hfit : x.Fit) (hl : x.len ≤ 800000000000) (w0 w : World) (R : HP) (hN : ∀ w', St w0 w' R → NamesAt w') (hF : ∀ w', St w0 w' R → FirstAt w') (hL : ∀ w', St w0 w' R → LinkAt w')
    (h : St w0 w (LAt TFx 11 Fx.cells v [Fx.of 8 noStr] * (TtAt t e u c p x * R))) :
    Calls Tryz.prog 43 #[ptr t, v] w fun r w' => r = .returned (.tuple #[]) ∧ St w0 w' (LAt TFx 11 Fx.cells v [Fx.of 8 noStr] * (TtAt t e u c p (x.links [Fx.of 8 noStr]) * R)) := by
  obtain ⟨a, cap, rfl, hcap, hmax⟩ := h.l_shape
  have HH := Lib.hid h
  have HI0 := Lib.hid hfit
  have HL := Lib.hid hl
  have HN := Lib.hid hN
  have HF := Lib.hid hF
  have HK := Lib.hid hL
  clear h hl hN hF hL hfit
  simp only [List.length_singleton] at *
  go_enter Tryz.func43, Tryz.ntmps43
  go_wp2
  go_loopw [10] (fun s10 wr => (s10 = .int .i64 0 ∧ Hid (St w0 wr (LAt TFx 11 Fx.cells (.slice a 1 cap) [Fx.of 8 noStr] * (TtAt t e u c p x * R)))) ∨ (s10 = .int .i64 1 ∧ Hid (St w0 wr (LAt TFx 11 Fx.cells (.slice a 1 cap) [Fx.of 8 noStr] * (TtAt t e u c p (x.links [Fx.of 8 noStr]) * R))))) (fun s10 _ => 1 - (intOf s10).toNat)
  case atStart => exact .inl ⟨rfl, HH⟩
  case round =>
    clear HH
    rcases hrel with ⟨rfl, HI⟩ | ⟨rfl, HI⟩
    · rcases HI.out.l_cells tyFx.len with ⟨h0, _⟩ | ⟨g, off, cap', hv, _, _, hcell⟩
      · exact absurd h0 (by simp)
      · simp only [Value.slice.injEq] at hv
        obtain ⟨rfl, hq, rfl⟩ := hv
        clear hq
        have hce := hcell 0 _ rfl
        have d0 : wr.cell? ⟨g, off, none⟩ = some (.int .i64 8) := hce 0 _ rfl
        have d1 : wr.cell? ⟨g, off + 1, none⟩ = some (.int .i64 0) := hce 1 _ rfl
        have d2 : wr.cell? ⟨g, off + 2, none⟩ = some (.int .i64 0) := hce 2 _ rfl
        have d3 : wr.cell? ⟨g, off + 3, none⟩ = some (.bool false) := hce 3 _ rfl
        have d4 : wr.cell? ⟨g, off + 4, none⟩ = some (.int .i64 0) := hce 4 _ rfl
        have d5 : wr.cell? ⟨g, off + 5, none⟩ = some (.bool false) := hce 5 _ rfl
        have d6 : wr.cell? ⟨g, off + 6, none⟩ = some (.int .i64 0) := hce 6 _ rfl
        have d7 : wr.cell? ⟨g, off + 7, none⟩ = some (.int .i64 0) := hce 7 _ rfl
        have d8 : wr.cell? ⟨g, off + 8, none⟩ = some (.string noStr) := hce 8 _ rfl
        have d9 : wr.cell? ⟨g, off + 9, none⟩ = some (.string noStr) := hce 9 _ rfl
        have d10 : wr.cell? ⟨g, off + 10, none⟩ = some (.int .i64 0) := hce 10 _ rfl
        have hd := HI.out.alloc (.cells #[.int .i64 8, .int .i64 0, .int .i64 0, .bool false, .int .i64 0, .bool false, .int .i64 0, .int .i64 0, .string noStr, .string noStr, .int .i64 0] TFx)
        clear hce hcell
        go_upto_region 3 with fail
        clear d0 d1 d2 d3 d4 d5 d6 d7 d8 d9 d10
        generalize wr.alloc _ = w2 at *
        generalize wr.heap.size = gy at *
        have c2 := hd.cell
        obtain ⟨sv, tv, h1⟩ := (hd.eq (show _ = TtAt t e u c p x * (blk gy _ * (LAt TFx 11 Fx.cells (.slice (some ⟨g, off, none⟩) 1 cap) [Fx.of 8 noStr] * R)) by ac_rfl)).tt_open
        have c3 := h1.cell
        have hw := u_want u x.u w0 w2 _ h1.f3
        have hf0 := HI0.out
        obtain ⟨fa, fb⟩ := us_want hf0.u
        have ln := us_want_len x.u
        have e8 := Lib.hid (links_wish x)
        have hf1 : (x.setU x.u.want.1).Fit := fit_setU hf0 fa
        generalize x.u.want = A at *
        obtain ⟨A1, A2, A3⟩ := A
        simp only [] at hw fa fb ln hf1 e8
        have HA := Lib.hid (And.intro fb (And.intro hf1 ln))
        clear HI hd hf0 hf1 fa fb ln
        go_upto_region 13 with (go_at_call 91; refine hw.mono ?_; rintro er w5 ⟨v5, rfl, h5⟩)
        clear hw c2 c3 h1
        have h6 : St w0 w5 (TtAt t e u c p (x.setU A1) * (LAt TUe 5 Ue.cells v5 A2 * (blk gy _ * (LAt TFx 11 Fx.cells (.slice (some ⟨g, off, none⟩) 1 cap) [Fx.of 8 noStr] * R)))) := St.tt_shut (x := x.setU A1) (e := e) (u := u) (c := c) (p := p) (sv := sv) (tv := tv) (h5.eq (by ac_rfl))
        have h7 := (h6.eq (show _ = blk gy _ * (LAt TUe 5 Ue.cells v5 A2 * (TtAt t e u c p (x.setU A1) * (LAt TFx 11 Fx.cells (.slice (some ⟨g, off, none⟩) 1 cap) [Fx.of 8 noStr] * R))) by ac_rfl)).drop
        have hs := t_users t e u c p (x.setU A1) v5 A2 HA.out.1 HA.out.2.1 (by have := HA.out.2.2; omega) (by have h1 := HA.out.2.2; have h2 := HL.out; show x.len + 100000 * A2.length ≤ _; omega) w0 w5 _ (fun w' h => HN.out w' h.drop) (fun w' h => HF.out w' h.drop) (fun w' h => HK.out w' h.drop) h7
        clear h5 h6 h7
        go_wp2_with fail
        refine hs.mono ?_
        rintro er w7 ⟨rfl, h8⟩
        have h9 := h8.drop.f2
        clear hs h8
        go_wp2
        go_roundw
        case rel =>
          refine .inr ⟨by go_num, Lib.hid ?_⟩
          rw [e8.out]
          exact h9
        case measure => simp [intOf]
    · have hz := HI.out
      clear HI
      go_wp2
      go_end0
      exact ⟨rfl, hz⟩
/-- ofLink, of what an entity tells -/
theorem t_links (t e u c p : Nat) (x : Tt) (v : Value) (l : List Fx) (s : Int) (hx : Fxs s l ∨ l = [Fx.of 8 noStr]) (hs : s ≤ 126) (hfit : x.Fit) (hl0 : l.length ≤ 100000) (hl : x.len ≤ 800000000000) (w0 w : World) (R : HP) (hN : ∀ w', St w0 w' R → NamesAt w') (hF : ∀ w', St w0 w' R → FirstAt w') (hL : ∀ w', St w0 w' R → LinkAt w')
    (h : St w0 w (LAt TFx 11 Fx.cells v l * (TtAt t e u c p x * R))) :
    Calls Tryz.prog 43 #[ptr t, v] w fun r w' => r = .returned (.tuple #[]) ∧ St w0 w' (LAt TFx 11 Fx.cells v l * (TtAt t e u c p (x.links l) * R)) := by
  rcases hx with hx | rfl
  · rw [links_eq l x (fun z hz => (hx z hz).1.2.2)]
    exact t_links0 t e u c p x v l (can_of hx (fun _ => hs)) (by omega) (by unfold Tt.len at hl; omega) w0 w R hN hF h
  · exact t_wish t e u c p x v hfit hl w0 w R hN hF hL h
end Go.Proofs.YtnnahljdhdippaaGreatDoor
