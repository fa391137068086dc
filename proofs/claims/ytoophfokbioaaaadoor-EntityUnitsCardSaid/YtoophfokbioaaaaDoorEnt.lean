/- The entity: what it has, as a claim; what each of its calls does to it, as plain functions. -/
import Derived.Test.YtoophfokbioaaaaDoorFlowOk
import Derived.Test.YtoophfokbioaaaaDoorMap
import Derived.Test.YtoophfokbioaaaaDoorList
namespace Go.Proofs.YtoophfokbioaaaaDoor
open Go.RowKit

/-! runs: a map of timers -/
def kInt : KD Int := ⟨fun n => .int .i64 n, fun n => (Lit.int .i64 n).wf = true, fun a b h => by simpa using h⟩
theorem kok (n : Int) (h1 : -9223372036854775808 ≤ n) (h2 : n < 9223372036854775808) : kInt.ok n := WalkArith.wf_i64 (by omega)
abbrev vBool (b : Bool) : Value := .bool b
abbrev BM := List (Int × Bool)
theorem tyBM : MTy Tryd.prog 60 3 4 kInt :=
  ⟨Tryd.underlying60, Maps.int_keyed Tryd.underlying3, fun _ h => ⟨_, Maps.keyOf_int_mk Tryd.underlying3 h⟩⟩
theorem zeroBool (w : World) : (zeroValue 4).run Tryd.prog w = .ok (.bool false) w := by kernel_rfl
def bOf (m : BM) (t : Int) : Bool := (mlook m t).getD false
theorem mlook_mput_same {β : Type} : ∀ (l : List (Int × β)) (k : Int) (v : β), mlook (mput l k v) k = some v
  | [], k, v => by simp [mput, mlook]
  | p :: l, k, v => by
    unfold mput
    by_cases h : p.1 = k
    · rw [if_pos h]; simp [mlook]
    · rw [if_neg h]
      unfold mlook
      rw [if_neg h]
      exact mlook_mput_same l k v
theorem mlook_mput_ne {β : Type} {k k' : Int} {v : β} (h : k' ≠ k) : ∀ l : List (Int × β), mlook (mput l k v) k' = mlook l k'
  | [] => by simp [mput, mlook, Ne.symm h]
  | p :: l => by
    unfold mput
    split
    · rename_i hp
      unfold mlook
      rw [if_neg (by simpa using Ne.symm h), if_neg (by rw [hp]; exact Ne.symm h)]
    · conv => lhs; unfold mlook
      conv => rhs; unfold mlook
      split
      · rfl
      · exact mlook_mput_ne h l
theorem bOf_put (m : BM) (t : Int) (b : Bool) (u : Int) : bOf (mput m t b) u = if u = t then b else bOf m u := by
  unfold bOf
  split
  · rename_i h; rw [h, mlook_mput_same]; rfl
  · rename_i h; rw [mlook_mput_ne h]
theorem St.bm {w0 w : World} {R : HP} {b : Nat} {m : BM} (h : St w0 w (MAt kInt vBool b m * R)) (t : Int) (hk : kInt.ok t) :
    (Instr.lookup 60 (.map (some b)) (.int .i64 t) false).run Tryd.prog w = .ok (.bool (bOf m t)) w := by
  have := h.map_look tyBM t hk (zeroBool _) false
  rw [show ((mlook m t).map vBool).getD (.bool false) = .bool (bOf m t) by unfold bOf; cases mlook m t <;> rfl] at this
  exact this

/-! frames, effects -/
structure Fr where
  sapi : Int
  tei : Int
  cmd : Bool
  kind : Int
  pf : Bool
  ns : Int
  nr : Int
  info : ByteArray
abbrev Fr.cells (f : Fr) : List Value := [.int .i64 f.sapi, .int .i64 f.tei, .bool f.cmd, .int .i64 f.kind, .bool f.pf, .int .i64 f.ns, .int .i64 f.nr, .string f.info]
structure Fx where
  kind : Int
  fr : Fr
  data : ByteArray
  timer : Int
abbrev Fx.cells (x : Fx) : List Value := [.int .i64 x.kind, .int .i64 x.fr.sapi, .int .i64 x.fr.tei, .bool x.fr.cmd, .int .i64 x.fr.kind, .bool x.fr.pf, .int .i64 x.fr.ns, .int .i64 x.fr.nr, .string x.fr.info, .string x.data, .int .i64 x.timer]
abbrev noStr : ByteArray := ⟨#[]⟩
abbrev Fr.none : Fr := ⟨0, 0, false, 0, false, 0, 0, noStr⟩
abbrev Fx.of (k : Int) (d : ByteArray) : Fx := ⟨k, .none, d, 0⟩
abbrev Fx.tim (k t : Int) : Fx := ⟨k, .none, noStr, t⟩

/-! the entity -/
structure En where
  most : Int
  state : Int
  tei : Int
  tries : Int
  asked : Bool
  t2 : Bool
  t3 : Bool
  units : List ByteArray
  fl : Fl
  out : List Fx

def En.tell (x : En) (f : Fx) : En := { x with out := x.out ++ [f] }
def En.told (x : En) (k : Int) (d : ByteArray) : En := x.tell (.of k d)
def numb (k : Int) : Bool := decide (0 ≤ k) && decide (k ≤ 3)
def En.sendD (x : En) (k : Int) (c p : Bool) (ns : Int) (i : ByteArray) : En := x.tell ⟨0, ⟨0, x.tei, c, k, p, ns, if numb k = true then (x.fl.vr : Int) else 0, i⟩, noStr, 0⟩
def En.send (x : En) (k : Int) (c p : Bool) : En := x.sendD k c p 0 noStr
def En.runs (x : En) (t : Int) : Bool := if t = 200 then x.t2 else if t = 203 then x.t3 else false
def En.setT (x : En) (t : Int) (b : Bool) : En := if t = 200 then { x with t2 := b } else { x with t3 := b }
def En.start (x : En) (t : Int) : En := (x.setT t true).tell (.tim 9 t)
def En.stop (x : En) (t : Int) : En := if x.runs t = true then (x.setT t false).tell (.tim 10 t) else x
def En.setFl (x : En) (v : Fl) : En := { x with fl := v }
def En.setState (x : En) (v : Int) : En := { x with state := v }
def En.setTries (x : En) (v : Int) : En := { x with tries := v }
def En.setAsked (x : En) (v : Bool) : En := { x with asked := v }
def En.setUnits (x : En) (v : List ByteArray) : En := { x with units := v }
def En.setTei (x : En) (v : Int) : En := { x with tei := v }
def En.setOut (x : En) (v : List Fx) : En := { x with out := v }
abbrev Fl.withPeer (s : Fl) (b : Bool) : Fl := { s with peer := b }
abbrev Fl.withOwn (s : Fl) (b : Bool) : Fl := { s with own := b }
abbrev Fl.withQ (s : Fl) (q : Q) : Fl := { s with q := q }
def En.call (x : En) : En := (((((x.setTries (0)).send 4 true true).stop 203).start 200).setState (5))
def En.anew (x : En) (l : ByteArray) : En := ((x.told 7 l).setAsked (false)).call
def En.take1 (x : En) : En :=
  let y := (x.setFl (x.fl.take.1)).sendD 0 true false x.fl.take.2.1 x.fl.take.2.2.1
  if x.t2 = true then y else (y.stop 203).start 200
def En.goOnK : Nat → En → En
  | 0, x => x
  | n + 1, x => if x.fl.take.2.2.2 = true then En.goOnK n x.take1 else x
def En.goOn (x : En) : En := if x.state = 7 then En.goOnK 128 x else x
def En.open1 (x : En) : En := ((((x.setFl (x.fl.reset)).stop 200).start 203).setState (7)).goOn
def En.superv (x : En) (c p : Bool) : En := x.send (if x.fl.own = true then 2 else 1) c p
def En.inquire (x : En) : En := (x.superv true true).start 200
def En.end1 (x : En) : En := ((((x.setFl (x.fl.clear)).stop 200).stop 203).setState (4))
def En.up (x : En) : Bool := x.state == 7 || x.state == 8
def En.establish (x : En) : En × Int :=
  if x.state = 1 then ((x.setState (3)).told 8 noStr, 0)
  else if x.state = 2 then ((x.setState (3)), 0)
  else if x.state = 6 then (x, 12)
  else if x.state = 5 then (((x.setFl (x.fl.clear)).setAsked (true)), 0)
  else if x.state = 7 ∨ x.state = 8 then (((x.setFl (x.fl.clear)).setAsked (true)).call, 0)
  else if x.state = 4 then ((x.setAsked (true)).call, 0)
  else (x, 0)
def En.release (x : En) : En × Int :=
  if x.state = 4 then (x.told 4 noStr, 0)
  else if x.up = true then (((((((x.setFl (x.fl.clear)).setTries (0)).send 7 true true).stop 203).start 200).setState (6)), 0)
  else (x, 12)
def En.data (x : En) (s : ByteArray) : En × Int :=
  if x.up = false ∧ (x.state ≠ 5 ∨ x.asked = true) then (x, 12)
  else if (x.fl.q.push s).2 = 0 then ((x.setFl ((Fl.withQ (x.fl) ((x.fl.q.push s).1)))).goOn, 0)
  else ((x.setFl ((Fl.withQ (x.fl) ((x.fl.q.push s).1)))), (x.fl.q.push s).2)
def En.unit (x : En) (s : ByteArray) : En × Int :=
  if 4 ≤ x.state then (x.sendD 6 true false 0 s, 0)
  else if 256 ≤ x.units.length then (x, 10)
  else if x.state = 1 then (((x.setUnits (x.units ++ [s])).setState (2)).told 8 noStr, 0)
  else ((x.setUnits (x.units ++ [s])), 0)
def En.own (x : En) (b : Bool) : En × Int :=
  if x.up = false then (x, 12)
  else if x.fl.own = b then (x, 0)
  else ((x.setFl ((Fl.withOwn (x.fl) (b)))).superv false false, 0)
def En.done (x : En) : En := (x.setOut ([]))
def En.ask (x : En) (a : Int) (d : ByteArray) : En × List Fx × Int :=
  if a < 0 ∨ 5 < a then (x, [], 2)
  else if (a = 2 ∨ a = 3) ∧ 260 < d.size then (x, [], 5)
  else
    let y := if a = 0 then x.establish else if a = 1 then x.release else if a = 2 then x.data d else if a = 3 then x.unit d else x.own (a == 4)
    (y.1.done, y.1.out, y.2)
def En.assign (x : En) (t : Int) : En × List Fx × Int :=
  if t < 0 ∨ 126 < t then (x, [], 2)
  else if 4 ≤ x.state then (x, [], 13)
  else
    let y := x.units.foldl (fun y s => (y.unit s).1) (((x.setTei (t)).setState (4)).setUnits ([]))
    let z := if x.state = 3 then (y.setAsked (true)).call else y
    (z.done, z.out, 0)
def En.remove (x : En) : En × List Fx × Int :=
  if x.state = 1 then (x, [], 11)
  else
    let y := x.end1
    let z := if x.state = 3 ∨ x.state = 5 ∨ x.state = 7 ∨ x.state = 8 then y.told 3 noStr else if x.state = 6 then y.told 4 noStr else y
    (((((z.done).setTei (-1)).setState (1)).setUnits ([])), z.out, 0)

/-! frames that come -/
def En.strange (x : En) (f : Fr) : En := x.told 7 (if f.pf = true then ⟨#[67]⟩ else ⟨#[68]⟩)
def En.inAssigned (x : En) (f : Fr) : En :=
  if f.kind = 4 then ((x.send 8 false f.pf).told 1 noStr).open1
  else if f.kind = 7 then x.send 5 false f.pf
  else if f.kind = 8 then x.strange f
  else if f.kind = 5 ∧ f.pf = false then (x.setAsked (true)).call
  else x
def En.unsure (x : En) : En := if x.fl.q.sent ≠ 0 then (x.setFl (x.fl.clear)).told 1 noStr else x
def En.inConnecting (x : En) (f : Fr) : En :=
  if f.kind = 4 then x.send 8 false f.pf
  else if f.kind = 7 then x.send 5 false f.pf
  else if f.kind = 8 ∧ f.pf = false then x.told 7 ⟨#[68]⟩
  else if f.kind = 8 then (((if x.asked = true then x.told 2 noStr else x.unsure)).setAsked (false)).open1
  else if f.kind = 5 ∧ f.pf = true then (x.told 3 noStr).end1
  else x
def En.inReleasing (x : En) (f : Fr) : En :=
  if f.kind = 4 then x.send 5 false f.pf
  else if f.kind = 7 then x.send 8 false f.pf
  else if f.kind = 8 ∧ f.pf = false then x.told 7 ⟨#[68]⟩
  else if f.pf = true ∧ (f.kind = 8 ∨ f.kind = 5) then (x.told 4 noStr).end1
  else x
def En.count (x : En) (n : Int) : En :=
  if x.fl.va = x.fl.vs then (x.stop 200).start 203
  else if 0 < n then x.start 200
  else x
def En.supervised (x : En) (f : Fr) : En :=
  let x1 := if f.cmd = true ∧ f.pf = true then x.superv false true else if f.pf = true ∧ x.state = 7 then x.told 7 ⟨#[65]⟩ else x
  let x2 := (x1.setFl ((Fl.withPeer (x1.fl) (f.kind == 2))))
  let a := x2.fl.ack f.nr
  let x3 := (x2.setFl (a.1))
  if a.2.2 ≠ 0 then x3.anew ⟨#[74]⟩
  else if x.state = 8 ∧ (f.cmd = true ∨ f.pf = false) then x3
  else if x.state = 7 ∧ f.kind = 1 then (x3.count a.2.1).goOn
  else
    let x4 := if f.kind ≠ 2 then (x3.stop 200).start 203 else (if x.state = 7 then x3.stop 203 else x3).start 200
    let x5 := if x.state = 8 ∨ f.kind = 3 then (x4.setFl (x4.fl.back)) else x4
    (x5.setState (7)).goOn
def En.info (x : En) (f : Fr) : En :=
  let c := x.fl.come f.ns
  let x0 := (x.setFl (c.1))
  let x1 := if c.2 = 0 then (x0.told 5 f.info).superv false f.pf
    else if c.2 = 1 then x0.send 3 false f.pf
    else if f.pf = true then x0.superv false true else x0
  let a := x1.fl.ack f.nr
  let x2 := (x1.setFl (a.1))
  if a.2.2 ≠ 0 then x2.anew ⟨#[74]⟩
  else if x.state = 7 then (if x2.fl.peer = false then x2.count a.2.1 else x2).goOn
  else x2
def En.inOpen (x : En) (f : Fr) : En :=
  if f.kind = 4 then (((x.send 8 false f.pf).told 7 ⟨#[70]⟩).unsure).open1
  else if f.kind = 7 then ((x.send 8 false f.pf).told 3 noStr).end1
  else if f.kind = 8 then x.strange f
  else if f.kind = 5 then x.anew (if f.pf = true then ⟨#[66]⟩ else ⟨#[69]⟩)
  else if f.kind = 9 then x.anew ⟨#[75]⟩
  else if f.kind = 0 then x.info f
  else x.supervised f
def mayK (k : Int) (c : Bool) : Bool := if k = 0 ∨ k = 4 ∨ k = 6 ∨ k = 7 then c else if k = 5 ∨ k = 8 ∨ k = 9 then !c else numb k
def carries (k n : Int) : Bool := if k = 0 ∨ k = 6 then decide (0 ≤ n) && decide (n ≤ 260) else if k = 9 then n == 5 else n == 0 && (decide (0 ≤ k) && decide (k < 10))
def En.frame (x : En) (f : Fr) : En × List Fx :=
  if x.tei < 0 ∨ mayK f.kind f.cmd = false ∨ carries f.kind f.info.size = false then (x, [])
  else
    let y := if f.kind = 6 then x.told 6 f.info else if x.state = 4 then x.inAssigned f else if x.state = 5 then x.inConnecting f else if x.state = 6 then x.inReleasing f else x.inOpen f
    (y.done, y.out)
def En.again (x : En) (k : Int) (l : ByteArray) (g : Int) : En :=
  if x.tries = x.most then ((x.told 7 l).told g noStr).end1
  else ((x.setTries (x.tries + 1)).send k true true).start 200
def En.timeout (x : En) (t : Int) : En × List Fx :=
  if x.runs t = false then (x, [])
  else
    let x0 := x.setT t false
    let y := if x.state = 5 then x0.again 4 ⟨#[71]⟩ 3 else if x.state = 6 then x0.again 7 ⟨#[72]⟩ 4
      else if x.state = 7 then (((x0.setTries (0)).inquire).setState (8))
      else if x.state = 8 then (if x.tries = x.most then x0.anew ⟨#[73]⟩ else (x0.setTries (x.tries + 1)).inquire)
      else x0
    (y.done, y.out)

/-! as a claim -/
abbrev TEn : TypeId := 64
abbrev TFx : TypeId := 47
theorem tyFx : ETy Tryd.prog 27 TFx 11 104 Fx.cells :=
  ⟨Tryd.underlying27, ⟨.agg #[.int .i64 0, .int .i64 0, .int .i64 0, .bool false, .int .i64 0, .bool false, .int .i64 0, .int .i64 0, .string noStr, .string noStr, .int .i64 0], by kernel_rfl, rfl⟩, fun _ => rfl, fun b u hu => by simp [Fx.cells] at hu; rcases hu with rfl | rfl | rfl | rfl | rfl | rfl | rfl | rfl | rfl | rfl | rfl <;> rfl, by decide, by decide⟩
abbrev En.cells (x : En) (rm fp : Nat) (uv ov : Value) : Array Value := #[.int .i64 x.most, .int .i64 x.state, .int .i64 x.tei, .int .i64 x.tries, .bool x.asked, .map (some rm), uv, ptr fp, ov]
def EnAt (e : Nat) (x : En) : HP := hex fun z : (Nat × Nat × Value × Value) × {l : BM // ∀ t, bOf l t = x.runs t} =>
  blk e (.cells (x.cells z.1.1 z.1.2.1 z.1.2.2.1 z.1.2.2.2) TEn (0, 0)) * (LAt TFx 11 Fx.cells z.1.2.2.2 x.out * (MAt kInt vBool z.1.1 z.2.1 * (FAt TF TQ z.1.2.1 x.fl * Row 9 1 z.1.2.2.1 x.units.length (strs x.units))))
section
variable {w0 w : World} {R : HP} {e : Nat} {x : En}
theorem St.e_open (h : St w0 w (EnAt e x * R)) : ∃ rm fp uv ov l, (∀ t, bOf l t = x.runs t) ∧ St w0 w (blk e (.cells (x.cells rm fp uv ov) TEn (0, 0)) * (LAt TFx 11 Fx.cells ov x.out * (MAt kInt vBool rm l * (FAt TF TQ fp x.fl * (Row 9 1 uv x.units.length (strs x.units) * R))))) := by
  obtain ⟨⟨⟨rm, fp, uv, ov⟩, l, hl⟩, h⟩ := h.ex
  exact ⟨rm, fp, uv, ov, l, hl, h.eq (by simp only [star_assoc])⟩
theorem St.e_shut {rm fp : Nat} {uv ov : Value} {l : BM} {c : Array Value} {out : List Fx} {fl : Fl} {n : Nat} {us : List Value} (h : St w0 w (blk e (.cells c TEn (0, 0)) * (LAt TFx 11 Fx.cells ov out * (MAt kInt vBool rm l * (FAt TF TQ fp fl * (Row 9 1 uv n us * R))))))
    (hc : c = x.cells rm fp uv ov) (ho : out = x.out) (hl : ∀ t, bOf l t = x.runs t) (hf : fl = x.fl) (hn : n = x.units.length) (hu : us = strs x.units) : St w0 w (EnAt e x * R) := by
  subst hc ho hf hn hu
  exact St.mk_ex ((rm, fp, uv, ov), ⟨l, hl⟩) (h.eq (by simp only [star_assoc]))
end
end Go.Proofs.YtoophfokbioaaaaDoor
