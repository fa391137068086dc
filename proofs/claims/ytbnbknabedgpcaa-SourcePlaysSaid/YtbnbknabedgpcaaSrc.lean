/- The source of TEIs: what it has, and what it does. -/
import Derived.Test.YtbnbknabedgpcaaPoolF
import Derived.Test.YtbnbknabedgpcaaMsg
import Derived.Test.YtbnbknabedgpcaaMap
import Derived.Test.YtbnbknabedgpcaaList
namespace Go.Proofs.Ytbnbknabedgpcaa
open Go.RowKit

/-- keys that are numbers -/
def kInt : KD Int := ⟨fun n => .int .i64 n, fun n => (Lit.int .i64 n).wf = true, fun a b h => by simpa using h⟩

structure Chk where
  tei : Int
  asked : Int
  ans : Int
abbrev Chk.cells (c : Chk) : List Value := [.int .i64 c.tei, .int .i64 c.asked, .int .i64 c.ans]
abbrev vChk (c : Chk) : Value := .agg c.cells.toArray

theorem tyChk : MTy Try.prog 101 3 91 kInt :=
  ⟨Try.underlying101, Maps.int_keyed Try.underlying3, fun _ h => ⟨_, Maps.keyOf_int_mk Try.underlying3 h⟩⟩
theorem zeroChk (w : World) : (zeroValue 91).run Try.prog w = .ok (vChk ⟨0, 0, 0⟩) w := by kernel_rfl

structure Ef where
  kind : Int
  m : Msg
  tei : Int
abbrev Ef.cells (x : Ef) : List Value := [.int .i64 x.kind, .int .i64 x.m.ty, .int .i64 x.m.ri, .int .i64 x.m.ai, .int .i64 x.tei]
abbrev efC (l : List Ef) : List Value := l.flatMap Ef.cells
def Ef.said (t ri ai : Int) : Ef := ⟨0, ⟨t, ri, ai⟩, 0⟩
def Ef.of (k tei : Int) : Ef := ⟨k, ⟨0, 0, 0⟩, tei⟩
abbrev TE : TypeId := 32
theorem tyEf : ETy Try.prog 25 TE 5 40 Ef.cells :=
  ⟨Try.underlying25, ⟨.agg #[.int .i64 0, .int .i64 0, .int .i64 0, .int .i64 0, .int .i64 0], by kernel_rfl, rfl⟩, fun _ => rfl, fun b u hu => by simp [Ef.cells] at hu; rcases hu with rfl | rfl | rfl | rfl | rfl <;> rfl, by decide, by decide⟩
/-- a slice of effects -/
abbrev EAt (v : Value) (l : List Ef) : HP := LAt TE 5 Ef.cells v l

structure Sr where
  pool : Pl
  checks : List (Int × Chk)
def SAt (s : Nat) (x : Sr) : HP := hex fun pb : Nat × Nat => blk s (.cells #[ptr pb.1, .map (some pb.2)] 103 (0, 0)) * (PAt pb.1 x.pool * MAt kInt vChk pb.2 x.checks)

section
variable {w0 w : World} {R : HP} {s : Nat} {x : Sr}
theorem St.s_open (h : St w0 w (SAt s x * R)) : ∃ p b, St w0 w (blk s (.cells #[ptr p, .map (some b)] 103 (0, 0)) * (PAt p x.pool * (MAt kInt vChk b x.checks * R))) := by
  obtain ⟨⟨p, b⟩, h⟩ := h.ex
  exact ⟨p, b, h.eq (by rw [star_assoc, star_assoc])⟩
theorem St.s_shut {p b : Nat} {pl : Pl} {l : List (Int × Chk)} (h : St w0 w (blk s (.cells #[ptr p, .map (some b)] 103 (0, 0)) * (PAt p pl * (MAt kInt vChk b l * R)))) : St w0 w (SAt s ⟨pl, l⟩ * R) :=
  St.mk_ex (p, b) (h.eq (by simp only [star_assoc]))
end

theorem star_r4 (A B C D R : HP) : A * (B * (C * (D * R))) = C * (D * (B * (A * R))) := by ac_rfl
theorem star_r3 (A B C R : HP) : A * (B * (C * R)) = B * (C * (A * R)) := by ac_rfl

theorem so_new (w0 w : World) (R : HP) (h : St w0 w R) :
    Calls Try.prog 14 #[] w fun e w' => ∃ s, e = .returned (ptr s) ∧ St w0 w' (SAt s ⟨⟨0, 62⟩, []⟩ * R) := by
  go_enter Try.func14, Try.ntmps14
  go_wp2_with fail
  refine (p_new w0 w R h).mono ?_
  rintro e w1 ⟨p, rfl, h1⟩
  have hmm := @run_makeMap Try.prog
  go_wp2
  go_ret
  have h2 := h1.map_new kInt vChk
  have h3 := h2.alloc (.cells #[ptr p, .map (some w1.heap.size)] 103)
  simp only [World.size_alloc] at h3
  exact ⟨_, rfl, (h3.eq (show _ = blk _ _ * (PAt p _ * (MAt kInt vChk w1.heap.size [] * R)) by ac_rfl)).s_shut⟩

theorem St.chk_none {w0 w : World} {R : HP} {b : Nat} {l : List (Int × Chk)} {tei : Int} (h : St w0 w (MAt kInt vChk b l * R)) (hk : kInt.ok tei) (hr : mlook l tei = none) :
    (Instr.lookup 101 (.map (some b)) (.int .i64 tei) true).run Try.prog w = .ok (.tuple #[.agg #[.int .i64 0, .int .i64 0, .int .i64 0], .bool false]) w := by
  have := h.map_look tyChk tei hk (zeroChk _) true
  rw [hr] at this
  exact this
theorem St.chk_some {w0 w : World} {R : HP} {b : Nat} {l : List (Int × Chk)} {tei t a n : Int} (h : St w0 w (MAt kInt vChk b l * R)) (hk : kInt.ok tei) (hr : mlook l tei = some ⟨t, a, n⟩) :
    (Instr.lookup 101 (.map (some b)) (.int .i64 tei) true).run Try.prog w = .ok (.tuple #[.agg #[.int .i64 t, .int .i64 a, .int .i64 n], .bool true]) w := by
  have := h.map_look tyChk tei hk (zeroChk _) true
  rw [hr] at this
  exact this

theorem so_said (t ri ai : Int) (w0 w : World) (R : HP) (h : St w0 w R) :
    Calls Try.prog 56 #[.int .i64 t, .int .i64 ri, .int .i64 ai] w fun e w' => e = .returned (.agg #[.int .i64 0, .int .i64 t, .int .i64 ri, .int .i64 ai, .int .i64 0]) ∧ St w0 w' R := by
  go_enter Try.func56, Try.ntmps56
  go_wp2
  have h2 := h.alloc (.cells (Ef.said t ri ai).cells.toArray TE)
  simp only [Ef.said, Ef.cells] at h2 ⊢
  generalize (w.alloc _) = w2 at *
  have c2 := h2.cell
  refine bodyPost_ret (v := .agg #[.int .i64 0, .int .i64 t, .int .i64 ri, .int .i64 ai, .int .i64 0]) (by simp [results, Try.results56, go_sem, Ef.said, c2]) rfl ⟨rfl, h2.drop⟩

def Sr.ask (x : Sr) (tei : Int) : Sr × List Ef := (⟨x.pool, mput x.checks tei ⟨tei, ((mlook x.checks tei).getD ⟨0, 0, 0⟩).asked + 1, 0⟩⟩, [.said 4 0 tei, .of 3 tei])

theorem chk_asked (a b c : Int) (w : World) : (Instr.field 91 (.agg #[.int .i64 a, .int .i64 b, .int .i64 c]) 1).run Try.prog w = .ok (.int .i64 b) w := by kernel_rfl
set_option maxRecDepth 100000 in
theorem so_ask (s : Nat) (x : Sr) (tei : Int) (w0 w : World) (R : HP) (h : St w0 w (SAt s x * R)) (hk : kInt.ok tei) (ha : 0 ≤ ((mlook x.checks tei).getD ⟨0, 0, 0⟩).asked ∧ ((mlook x.checks tei).getD ⟨0, 0, 0⟩).asked ≤ 2) :
    Calls Try.prog 57 #[ptr s, .int .i64 tei] w fun e w' => ∃ v, e = .returned v ∧ St w0 w' (EAt v (x.ask tei).2 * (SAt s (x.ask tei).1 * R)) := by
  obtain ⟨p, b, h1⟩ := h.s_open
  have c := h1.cell
  have h2 := h1.drew.eq (show _ = MAt kInt vChk b x.checks * (blk s (.cells #[ptr p, .map (some b)] 103 (0, 0)) * (PAt p x.pool * R)) by ac_rfl)
  have hl : (Instr.lookup 101 (.map (some b)) (.int .i64 tei) false).run Try.prog w.drew = _ := h2.map_look tyChk tei hk (zeroChk _) false
  obtain ⟨c0, hc0⟩ : ∃ c0, (mlook x.checks tei).getD ⟨0, 0, 0⟩ = c0 := ⟨_, rfl⟩
  rw [show ((mlook x.checks tei).map vChk).getD (vChk ⟨0, 0, 0⟩) = vChk c0 by rw [← hc0]; cases mlook x.checks tei <;> rfl] at hl
  rw [hc0] at ha
  obtain ⟨ct, ca, cn⟩ := c0
  simp only [Bool.false_eq_true, if_false, vChk, Chk.cells] at hl ha
  change Sem.run _ _ _ = Result.ok _ w.drew at hl
  have hf := chk_asked
  have hw : IntKind.i64.wrap (ca + 1) = ca + 1 := by rw [IntKind.wrap_i64]; omega
  have H2 := Lib.hid h2
  clear h h1 h2
  go_enter Try.func57, Try.ntmps57
  go_wp2
  go_still_tail 15, (by kernel_rfl)
  change wpList _ _ _ _ _ w.drew
  have h2 := H2.out
  generalize w.drew = w2 at *
  go_wp2_with (at_mapUpdate; refine wp_mput rfl (.tmp 8) (.tmp 9) (.tmp 19) 101 rfl tyChk h2 rfl tei rfl hk ⟨tei, ca + 1, 0⟩ rfl ?_; intro w3 h3)
  go_wp2_with fail
  refine (so_said 4 0 tei _ _ _ h3).mono ?_
  rintro e w4 ⟨rfl, h4⟩
  go_wp2
  go_ret
  have h5 := h4.alloc (.cells ((Ef.said 4 0 tei).cells ++ (Ef.of 3 tei).cells).toArray TE)
  have h6 := h5.l_mk (enc := Ef.cells) (sz := 5) tyEf.len [.said 4 0 tei, .of 3 tei] 2 rfl (by simp [Ef.said, Ef.of]) (by decide)
  simp only [Sr.ask, hc0]
  exact ⟨_, rfl, (((h6.eq (star_r4 _ _ _ _ _)).s_shut).eq (star_left_comm _ _ _))⟩

def Sr.remove (x : Sr) (tei : Int) : Sr × List Ef :=
  (⟨(x.pool.free tei).1, mdel x.checks tei⟩, [.said 6 0 tei, .said 6 0 tei] ++ (if (mlook x.checks tei).isSome = true then [.of 4 tei] else []) ++ (if (x.pool.free tei).2 = true then [.of 2 tei] else []))

theorem mdel_none {α β : Type} [DecidableEq α] : ∀ {l : List (α × β)} {k : α}, mlook l k = none → mdel l k = l
  | [], _, _ => rfl
  | p :: l, k, h => by
    unfold mlook at h
    unfold mdel
    by_cases hp : p.1 = k
    · rw [if_pos hp] at h; cases h
    · rw [if_neg hp] at h ⊢; rw [mdel_none h]

set_option maxRecDepth 100000 in
theorem so_remove (s : Nat) (x : Sr) (tei : Int) (w0 w : World) (R : HP) (h : St w0 w (SAt s x * R)) (hk : kInt.ok tei) (hn : x.pool.on < 2 ^ 63) :
    Calls Try.prog 67 #[ptr s, .int .i64 tei] w fun e w' => ∃ v, e = .returned v ∧ St w0 w' (EAt v (x.remove tei).2 * (SAt s (x.remove tei).1 * R)) := by
  obtain ⟨p, b, h1⟩ := h.s_open
  obtain ⟨r, hr⟩ : ∃ r, mlook x.checks tei = r := ⟨_, rfl⟩
  obtain ⟨⟨fp, fb⟩, hf⟩ : ∃ r, x.pool.free tei = r := ⟨_, rfl⟩
  have hE : x.remove tei = _ := rfl
  conv at hE => rhs; unfold Sr.remove; rw [hr, hf]
  generalize x.remove tei = res at *
  obtain ⟨x', l⟩ := res
  have HE := Lib.hid hE
  clear hE
  simp only []
  have H1 := Lib.hid h1
  have HF := Lib.hid hf
  have HR := Lib.hid hr
  clear h h1 hf
  have hx := chk_asked
  go_enter Try.func67, Try.ntmps67
  go_wp2_with fail
  refine (so_said 6 0 tei _ _ _ H1.out).mono ?_
  rintro e w2 ⟨rfl, h2⟩
  go_wp2_with fail
  refine (so_said 6 0 tei _ _ _ h2).mono ?_
  rintro e w3 ⟨rfl, h3⟩
  have h4 := (h3.alloc (.cells #[.int .i64 0, .int .i64 6, .int .i64 0, .int .i64 tei, .int .i64 0, .int .i64 0, .int .i64 6, .int .i64 0, .int .i64 tei, .int .i64 0] 32)).l_mk (enc := Ef.cells) (sz := 5) tyEf.len [.said 6 0 tei, .said 6 0 tei] 2 rfl (by simp [Ef.said]) (by decide)
  go_upto_region 2 with fail
  generalize w3.alloc _ = w4 at *
  have c5 := h4.f2.cell
  cases r with
  | none =>
    have hd := mdel_none hr
    have hl := h4.f4.chk_none hk hr
    have h5 := (h4.alloc (.cells #[.int .i64 0, .int .i64 0, .int .i64 0] 91)).drop
    have hlt := h4.f2.lt
    go_wp2_with fail
    have h6 := h5
    rw [← hd] at h6
    clear hd
    refine (p_free p x.pool tei _ _ _ h6.f3 hn).mono ?_
    rintro e w7 ⟨rfl, h7⟩
    rw [HF.out] at h7 ⊢
    simp only [] at h7 ⊢
    have h8 := h7.b4
    have hp : x'.pool = fp := (congrArg (fun r => r.1.pool) HE.out)
    have hq : x'.checks = mdel x.checks tei := (congrArg (fun r => r.1.checks) HE.out)
    have hl' : l = _ := congrArg Prod.snd HE.out
    have HP := Lib.hid hp
    have HQ := Lib.hid hq
    have HL := Lib.hid hl'
    clear h7 h6 hp hq hl' HE
    cases fb with
    | false =>
      go_wp2
      go_ret
      obtain ⟨xp, xc⟩ := x'
      obtain rfl := HP.out
      obtain rfl := HQ.out
      have := HL.out
      simp at this
      subst this
      exact ⟨_, rfl, h8.b4.m2.s_shut.f2⟩
    | true =>
      have HA := (h8.alloc (.cells #[.int .i64 2, .int .i64 0, .int .i64 0, .int .i64 0, .int .i64 tei] 32)).drop
      go_wp2_with (at_builtin; refine wp_append_elem rfl (.tmp 39) (.tmp 42) rfl tyEf HA (Ef.of 2 tei) rfl _ rfl (new_cells _ [.int .i64 2, .int .i64 0, .int .i64 0, .int .i64 0, .int .i64 tei] _ _ rfl) (by simp) ?hk)
      case hk =>
        intro g off cap w8 h9
        go_wp2
        go_ret
        obtain ⟨xp, xc⟩ := x'
        obtain rfl := HP.out
        obtain rfl := HQ.out
        have := HL.out
        simp at this
        subst this
        exact ⟨_, rfl, h9.b4.m2.s_shut.f2⟩
  | some c =>
    obtain ⟨ct, ca, cn⟩ := c
    have hl := h4.f4.chk_some hk hr
    have h5 := (h4.alloc (.cells #[.int .i64 ct, .int .i64 ca, .int .i64 cn] 91)).drop
    have hlt := h4.f2.lt
    go_upto_region 5 with (at_delete; refine wp_mdel rfl (.tmp 26) (.tmp 27) 101 3 rfl tyChk h5.f4 rfl tei rfl hk ?_; intro w5 h50)
    have h51 := h50.b4
    have HA := (h51.alloc (.cells #[.int .i64 4, .int .i64 0, .int .i64 0, .int .i64 0, .int .i64 tei] 32)).drop
    clear h2 h3 h4 h5 hl c5 hlt
    go_wp2_with (at_builtin; refine wp_append_elem rfl (.tmp 28) (.tmp 31) rfl tyEf HA (Ef.of 4 tei) rfl _ rfl (new_cells _ [.int .i64 4, .int .i64 0, .int .i64 0, .int .i64 0, .int .i64 tei] _ _ rfl) (by simp) ?hk)
    case hk =>
      intro g off cap w6 h6
      have c6 := h6.f2.cell
      go_wp2_with fail
      refine (p_free p x.pool tei _ _ _ h6.f3 hn).mono ?_
      rintro e w7 ⟨rfl, h7⟩
      rw [HF.out] at h7 ⊢
      simp only [] at h7 ⊢
      have h8 := h7.b4
      have hp : x'.pool = fp := (congrArg (fun r => r.1.pool) HE.out)
      have hq : x'.checks = mdel x.checks tei := (congrArg (fun r => r.1.checks) HE.out)
      have hl' : l = _ := congrArg Prod.snd HE.out
      have HP := Lib.hid hp
      have HQ := Lib.hid hq
      have HL := Lib.hid hl'
      clear h7 h6 hp hq hl' HE
      cases fb with
      | false =>
        go_wp2
        go_ret
        obtain ⟨xp, xc⟩ := x'
        obtain rfl := HP.out
        obtain rfl := HQ.out
        have := HL.out
        simp at this
        subst this
        exact ⟨_, rfl, h8.b4.m2.s_shut.f2⟩
      | true =>
        have HA := (h8.alloc (.cells #[.int .i64 2, .int .i64 0, .int .i64 0, .int .i64 0, .int .i64 tei] 32)).drop
        go_wp2_with (at_builtin; refine wp_append_elem rfl (.tmp 39) (.tmp 42) rfl tyEf HA (Ef.of 2 tei) rfl _ rfl (new_cells _ [.int .i64 2, .int .i64 0, .int .i64 0, .int .i64 0, .int .i64 tei] _ _ rfl) (by simp) ?hk)
        case hk =>
          intro g off cap w8 h9
          go_wp2
          go_ret
          obtain ⟨xp, xc⟩ := x'
          obtain rfl := HP.out
          obtain rfl := HQ.out
          have := HL.out
          simp at this
          subst this
          exact ⟨_, rfl, h9.b4.m2.s_shut.f2⟩
end Go.Proofs.Ytbnbknabedgpcaa
