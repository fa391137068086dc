/- The source's laws: what all of them ask first. -/
import Derived.Test.YtbnbknabedgpcaaSrcD
import Derived.Test.YtbnbknabedgpcaaLaw
namespace Go.Proofs.Ytbnbknabedgpcaa
open Go.RowKit

theorem wk1 : Sr.message ⟨⟨0, 62⟩, []⟩ ⟨1, 7, 127⟩ = (⟨⟨1, 0⟩, []⟩, [.said 2 7 64, .of 1 64]) := by kernel_rfl
theorem wk2 : Sr.check ⟨⟨1, 0⟩, []⟩ 64 = (⟨⟨1, 0⟩, [(64, ⟨64, 1, 0⟩)]⟩, [.said 4 0 64, .of 3 64], 0) := by kernel_rfl
theorem wk3 : Sr.message ⟨⟨1, 0⟩, [(64, ⟨64, 1, 0⟩)]⟩ ⟨5, 0, 64⟩ = (⟨⟨1, 0⟩, [(64, ⟨64, 1, 1⟩)]⟩, []) := by kernel_rfl
theorem wk4 : Sr.message ⟨⟨1, 0⟩, [(64, ⟨64, 1, 1⟩)]⟩ ⟨5, 0, 64⟩ = (⟨⟨0, 0⟩, []⟩, [.said 6 0 64, .said 6 0 64, .of 4 64, .of 2 64]) := by kernel_rfl

theorem Sr.Ok.new : Sr.Ok ⟨⟨0, 62⟩, []⟩ := ⟨by decide, by decide, by simp⟩

/-- a message, when what comes of it is known -/
theorem so_message_to {s : Nat} {x x' : Sr} {m : Msg} {l : List Ef} {w0 w : World} {R : HP} (h : St w0 w (SAt s x * R)) (ok : x.Ok) (e : x.message m = (x', l)) :
    Calls Try.prog 15 #[ptr s, .agg #[.int .i64 m.ty, .int .i64 m.ri, .int .i64 m.ai]] w fun e w' => ∃ v, e = .returned v ∧ St w0 w' (EAt v l * (SAt s x' * R)) := by
  have := so_message s x m w0 w R h ok
  rw [e] at this
  exact this
theorem so_check_to {s : Nat} {x x' : Sr} {t er : Int} {l : List Ef} {w0 w : World} {R : HP} (h : St w0 w (SAt s x * R)) (ok : x.Ok) (hk : kInt.ok t) (e : x.check t = (x', l, er)) :
    Calls Try.prog 39 #[ptr s, .int .i64 t] w fun e w' => ∃ v, e = .returned (.tuple #[v, .int .i64 er]) ∧ St w0 w' (EAt v l * (SAt s x' * R)) := by
  have := so_check s x t w0 w R h ok hk
  rw [e] at this
  exact this

theorem msg_eqi (n : Nat) (hn : 2 ≤ n) (a b c a' b' c' : Int) (w : World) : (Op.equalIn n 29 (.agg #[.int .i64 a, .int .i64 b, .int .i64 c]) (.agg #[.int .i64 a', .int .i64 b', .int .i64 c'])).run Try.prog w = .ok (a == a' && (b == b' && c == c')) w := by
  obtain ⟨m, rfl⟩ : ∃ m, n = m + 2 := ⟨n - 2, by omega⟩
  rw [run_equalIn_agg (P := Try.prog) w (m + 1) 29 _ _ (by kernel_rfl) (by kernel_rfl)]
  go_simp
  repeat' split
  all_goals simp_all
theorem msg_eq (a b c a' b' c' : Int) (w : World) : (Op.equalIn 10000 29 (.agg #[.int .i64 a, .int .i64 b, .int .i64 c]) (.agg #[.int .i64 a', .int .i64 b', .int .i64 c'])).run Try.prog w = .ok (a == a' && (b == b' && c == c')) w := msg_eqi 10000 (by decide) a b c a' b' c' w
theorem msg_guard (op : BinOp) (x y : Operand) (xs ys : Array Value) (w : World) : (eqGuard op 29 x y (.agg xs) (.agg ys)).run Try.prog w = .ok () w := run_eqGuard_agg (P := Try.prog) w op 29 x y xs ys (by kernel_rfl)
theorem ef_eq (k a b c t k' a' b' c' t' : Int) (w : World) : (Op.equalIn 10000 32 (.agg #[.int .i64 k, .int .i64 a, .int .i64 b, .int .i64 c, .int .i64 t]) (.agg #[.int .i64 k', .int .i64 a', .int .i64 b', .int .i64 c', .int .i64 t'])).run Try.prog w = .ok (k == k' && ((a == a' && (b == b' && c == c')) && t == t')) w := by
  have hm := msg_eqi 9999 (by decide) a b c a' b' c' w
  rw [run_equalIn_agg (P := Try.prog) w 9999 32 _ _ (by kernel_rfl) (by kernel_rfl)]
  go_simp
  repeat' split
  all_goals simp_all
theorem ef_guard (op : BinOp) (x y : Operand) (xs ys : Array Value) (w : World) : (eqGuard op 32 x y (.agg xs) (.agg ys)).run Try.prog w = .ok () w := run_eqGuard_agg (P := Try.prog) w op 32 x y xs ys (by kernel_rfl)

set_option maxRecDepth 100000 in
theorem so_wakes (w0 w : World) (R : HP) (h : St w0 w R) :
    Calls Try.prog 16 #[] w fun e w' => e = .returned (.bool true) ∧ St w0 w' R := by
  have ok1 := Sr.Ok.new.message ⟨1, 7, 127⟩
  rw [wk1] at ok1
  have ok2 := ok1.check 64
  simp only [] at ok2
  rw [wk2] at ok2
  have ok3 := ok2.message ⟨5, 0, 64⟩
  simp only [] at ok3
  rw [wk3] at ok3
  simp only [] at ok1 ok2 ok3
  go_enter Try.func16, Try.ntmps16
  go_wp2_with fail
  refine (so_new w0 w R h).mono ?_
  rintro e w1 ⟨s, rfl, h1⟩
  go_wp2_with fail
  refine (so_message_to h1 Sr.Ok.new wk1).mono ?_
  rintro e w2 ⟨v2, rfl, h2⟩
  go_wp2_with fail
  refine (so_check_to h2.f2 ok1 (kok 64 (by decide) (by decide)) wk2).mono ?_
  rintro e w3 ⟨v3, rfl, h3⟩
  go_wp2_with fail
  refine (so_message_to h3.f2 ok2 wk3).mono ?_
  rintro e w4 ⟨v4, rfl, h4⟩
  go_wp2_with fail
  refine (so_message_to h4.f2 ok3 wk4).mono ?_
  rintro e w5 ⟨v5, rfl, h5⟩
  have h6 := h5.f5
  rcases h5.l_cells tyEf.len with ⟨h0, _⟩ | ⟨g5, off5, cap5, rfl, hc5, _, hcell5⟩
  · cases h0
  rcases h6.l_cells tyEf.len with ⟨h0, _⟩ | ⟨g2, off2, cap2, rfl, hc2, _, hcell2⟩
  · cases h0
  have d1 : w5.cell? ⟨g2, off2 + 1, none⟩ = some (.int .i64 2) := hcell2 0 _ rfl 1 _ rfl
  have d2 : w5.cell? ⟨g2, off2 + 1 + 1, none⟩ = some (.int .i64 7) := hcell2 0 _ rfl 2 _ rfl
  have d3 : w5.cell? ⟨g2, off2 + 1 + 2, none⟩ = some (.int .i64 64) := hcell2 0 _ rfl 3 _ rfl
  have d4 : w5.cell? ⟨g2, off2 + 5 + 4, none⟩ = some (.int .i64 64) := hcell2 1 _ rfl 4 _ rfl
  have e0 : w5.cell? ⟨g5, off5 + 15, none⟩ = some (.int .i64 2) := hcell5 3 _ rfl 0 _ rfl
  have e1 : w5.cell? ⟨g5, off5 + 15 + 1, none⟩ = some (.int .i64 0) := hcell5 3 _ rfl 1 _ rfl
  have e2 : w5.cell? ⟨g5, off5 + 15 + 2, none⟩ = some (.int .i64 0) := hcell5 3 _ rfl 2 _ rfl
  have e3 : w5.cell? ⟨g5, off5 + 15 + 3, none⟩ = some (.int .i64 0) := hcell5 3 _ rfl 3 _ rfl
  have e4 : w5.cell? ⟨g5, off5 + 15 + 4, none⟩ = some (.int .i64 64) := hcell5 3 _ rfl 4 _ rfl
  have hEq := msg_eq
  have hGd := msg_guard
  have hEq2 := ef_eq
  have hGd2 := ef_guard
  clear hcell2 hcell5 h4 h3 h2 h1 h
  go_wp2
  go_ret
  exact ⟨rfl, h5.drop.drop.drop.drop.drop⟩
end Go.Proofs.Ytbnbknabedgpcaa
