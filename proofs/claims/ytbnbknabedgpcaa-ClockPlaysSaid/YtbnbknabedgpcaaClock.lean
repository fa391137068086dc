/- The clock: what it has; Start, Runs, Stop, Next. -/
import Derived.Test.YtbnbknabedgpcaaMap
import Derived.Test.YtbnbknabedgpcaaList
import Derived.Test.YtbnbknabedgpcaaChecked
import Derived.DeepKeys4
namespace Go.Proofs.Ytbnbknabedgpcaa
open Go.RowKit

abbrev ptrC (b : Nat) : Value := .pointer (some ⟨b, 0, none⟩)
abbrev Key := Int × Int
abbrev keyC (k : Key) : List Value := [.int .i64 k.1, .int .i64 k.2]
def okK (k : Key) : Prop := (Lit.int .i64 k.1).wf = true ∧ (Lit.int .i64 k.2).wf = true
def kKey : KD Key := ⟨fun k => .agg (keyC k).toArray, okK, fun a b h => by
  obtain ⟨a1, a2⟩ := a
  obtain ⟨b1, b2⟩ := b
  simpa using h⟩
abbrev vInt (t : Int) : Value := .int .i64 t

theorem laidOutP : laidOutB Try.prog = true := by kernel_rfl
theorem keyRow : (43 : TypeId) < Try.prog.types.size := of_decide_eq_true (by kernel_rfl)
theorem keyWide : (match Try.prog.underlying 43 with | some (.array _ _) | some (.struct _) => true | _ => false) = true := by rw [Try.underlying43]
theorem keyAt : Try.prog.keyTypeAt 2 43 = true := by kernel_rfl
set_option maxRecDepth 100000 in
theorem keyLaw : WideMaps.KeyLaw Try.prog 43 := deep_law_laid laidOutP (m := 2) (by omega) keyRow keyAt keyWide
theorem keyCells : Try.prog.cellsOf 43 = 2 := by kernel_rfl
theorem intCells : Try.prog.cellsOf 3 = 1 := by kernel_rfl
theorem keyReads (k : Key) (h : okK k) : ∃ l, keyOf Try.prog 43 (kKey.kv k) = some l := by
  obtain ⟨a, b⟩ := k
  obtain ⟨h1, h2⟩ := h
  simp only [] at h1 h2
  have hk : Try.prog.keyType 43 = true := by kernel_rfl
  obtain ⟨n, hn⟩ : ∃ n, Try.prog.types.size + 1 = n + 2 := ⟨Try.prog.types.size - 1, by have h : (43 : Nat) < Try.prog.types.size := keyRow; omega⟩
  unfold keyOf
  rw [Try.underlying43, hk, hn]
  simp [kKey, keyC, Value.formed, Try.underlying43, keyCells, Program.keyLits, Try.underlying3, intCells, h1, h2, Value.cells]

theorem tyTill : MTy Try.prog 39 43 2 kKey :=
  ⟨Try.underlying39, Maps.Keyed.of_law keyLaw, keyReads⟩
theorem zeroI64 (w : World) : (zeroValue 2).run Try.prog w = .ok (.int .i64 0) w := by kernel_rfl

/-- the clock: its timers, in the order in which they came -/
abbrev Tms := List (Key × Int)
def CAt (c : Nat) (l : Tms) : HP := hex fun b : Nat => blk c (.cells #[.map (some b)] 107 (0, 0)) * MAt kKey vInt b l

section
variable {w0 w : World} {R : HP} {c : Nat} {l : Tms}
theorem St.c_open (h : St w0 w (CAt c l * R)) : ∃ b, St w0 w (blk c (.cells #[.map (some b)] 107 (0, 0)) * (MAt kKey vInt b l * R)) := by
  obtain ⟨b, h⟩ := h.ex
  exact ⟨b, h.eq (star_assoc _ _ _)⟩
theorem St.c_shut {b : Nat} (h : St w0 w (blk c (.cells #[.map (some b)] 107 (0, 0)) * (MAt kKey vInt b l * R))) : St w0 w (CAt c l * R) :=
  St.mk_ex b (h.eq (star_assoc _ _ _).symm)
theorem St.till {b : Nat} (h : St w0 w (MAt kKey vInt b l * R)) (k : Key) (hk : okK k) :
    (Instr.lookup 39 (.map (some b)) (.agg #[.int .i64 k.1, .int .i64 k.2]) false).run Try.prog w = .ok (.int .i64 ((mlook l k).getD 0)) w := by
  have := h.map_look tyTill k hk (zeroI64 _) false
  rw [show ((mlook l k).map vInt).getD (.int .i64 0) = .int .i64 ((mlook l k).getD 0) by cases mlook l k <;> rfl] at this
  exact this
theorem St.till_ok {b : Nat} (h : St w0 w (MAt kKey vInt b l * R)) (k : Key) (hk : okK k) :
    (Instr.lookup 39 (.map (some b)) (.agg #[.int .i64 k.1, .int .i64 k.2]) true).run Try.prog w = .ok (.tuple #[.int .i64 ((mlook l k).getD 0), .bool (mlook l k).isSome]) w := by
  have := h.map_look tyTill k hk (zeroI64 _) true
  rw [show ((mlook l k).map vInt).getD (.int .i64 0) = .int .i64 ((mlook l k).getD 0) by cases mlook l k <;> rfl] at this
  exact this
end

theorem c_new (w0 w : World) (R : HP) (h : St w0 w R) :
    Calls Try.prog 18 #[] w fun e w' => ∃ c, e = .returned (ptrC c) ∧ St w0 w' (CAt c [] * R) := by
  have hmm := @run_makeMap Try.prog
  have h2 := h.map_new kKey vInt
  have h3 := h2.alloc (.cells #[.map (some w.heap.size)] 107)
  simp only [World.size_alloc] at h3
  go_enter Try.func18, Try.ntmps18
  go_wp2
  go_ret
  exact ⟨_, rfl, h3.c_shut⟩

/-- Start's answer -/
def badStart (now period : Int) : Bool := decide (now < 0 ∨ 9007199254740992 < now ∨ period < 1 ∨ 1048576 < period)
def cstart (l : Tms) (k : Key) (now period : Int) : Tms × Int := if badStart now period = true then (l, 2) else (mput l k (now + period), 0)

set_option maxRecDepth 100000 in
theorem c_start (c : Nat) (l : Tms) (k : Key) (hk : okK k) (now period : Int) (w0 w : World) (R : HP) (h : St w0 w (CAt c l * R)) :
    Calls Try.prog 19 #[ptrC c, .agg #[.int .i64 k.1, .int .i64 k.2], .int .i64 now, .int .i64 period] w fun e w' => e = .returned (.int .i64 (cstart l k now period).2) ∧ St w0 w' (CAt c (cstart l k now period).1 * R) := by
  obtain ⟨k1, k2⟩ := k
  have h1 := h.alloc (.cells #[.int .i64 k1, .int .i64 k2] 43)
  unfold cstart badStart
  by_cases b1 : now < 0
  · rw [if_pos (by simp [b1])]
    go_enter Try.func19, Try.ntmps19
    go_wp2
    go_ret
    exact ⟨rfl, h1.drop⟩
  have b1' : decide (now < 0) = false := by simpa using b1
  by_cases b2 : 9007199254740992 < now
  · rw [if_pos (by simp [b2])]
    go_enter Try.func19, Try.ntmps19
    go_wp2
    go_ret
    exact ⟨rfl, h1.drop⟩
  have b2' : decide (9007199254740992 < now) = false := by simpa using b2
  by_cases b3 : period < 1
  · rw [if_pos (by simp [b3])]
    go_enter Try.func19, Try.ntmps19
    go_wp2
    go_ret
    exact ⟨rfl, h1.drop⟩
  have b3' : decide (period < 1) = false := by simpa using b3
  by_cases b4 : 1048576 < period
  · rw [if_pos (by simp [b4])]
    go_enter Try.func19, Try.ntmps19
    go_wp2
    go_ret
    exact ⟨rfl, h1.drop⟩
  have b4' : decide (1048576 < period) = false := by simpa using b4
  rw [if_neg (by simp; omega)]
  obtain ⟨b, h2⟩ := h1.f2.c_open
  have c2 := h2.cell
  have c3 := h2.f3.cell
  have hw : IntKind.i64.wrap (now + period) = now + period := by rw [IntKind.wrap_i64]; omega
  have H2 := Lib.hid h2
  clear h1 h2 h
  go_enter Try.func19, Try.ntmps19
  go_upto_region 5 with fail
  generalize w.alloc _ = w2 at *
  go_still_tail 8, (by kernel_rfl)
  change wpList _ _ _ _ _ w2.drew
  have h3 := H2.out.drew
  clear c2 c3 H2
  generalize w2.drew = w3 at *
  go_wp2_with (at_mapUpdate; refine wp_mput rfl (.tmp 30) (.tmp 31) (.tmp 34) 39 rfl tyTill h3.f2 rfl (k1, k2) rfl hk (now + period) rfl ?_; intro w5 h6)
  go_ret
  exact ⟨rfl, h6.f2.f3.drop.c_shut⟩

theorem c_runs (c : Nat) (l : Tms) (k : Key) (hk : okK k) (w0 w : World) (R : HP) (h : St w0 w (CAt c l * R)) :
    Calls Try.prog 23 #[ptrC c, .agg #[.int .i64 k.1, .int .i64 k.2]] w fun e w' => e = .returned (.tuple #[.int .i64 ((mlook l k).getD 0), .bool (mlook l k).isSome]) ∧ St w0 w' (CAt c l * R) := by
  obtain ⟨k1, k2⟩ := k
  have h1 := h.alloc (.cells #[.int .i64 k1, .int .i64 k2] 43)
  obtain ⟨b, h2⟩ := h1.f2.c_open
  have c2 := h2.cell
  have c3 := h2.f3.cell
  have hl := fun n => (h2.drewN n).f2.till_ok (k1, k2) hk
  simp only [] at hl
  have H1 := Lib.hid h1
  clear h1 h2 h
  go_enter Try.func23, Try.ntmps23
  go_upto_region 3 with fail
  generalize w.alloc _ = w2 at *
  go_quiet (fail)
  go_wp2
  go_ret2
  exact ⟨rfl, (H1.out.drewN _).drop⟩
end Go.Proofs.Ytbnbknabedgpcaa
