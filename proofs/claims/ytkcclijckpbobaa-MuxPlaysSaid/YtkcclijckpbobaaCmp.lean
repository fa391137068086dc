/- cmp.Compare, cmp.Or. -/
import Derived.Test.YtkcclijckpbobaaSep
import Derived.Test.YtkcclijckpbobaaChecked
namespace Go.Proofs.Ytkcclijckpbobaa
open Go.RowKit

def cmpv (a b : Int) : Int := if a < b then -1 else if b < a then 1 else 0

theorem nan_int (a : Int) (w : World) : Calls Try.prog 30 #[.int .i64 a] w fun e w' => e = .returned (.bool false) ∧ w' = w := by
  go_enter Try.func30, Try.ntmps30
  go_wp2
  go_ret
  exact ⟨by simp, rfl⟩
theorem cmp_int (a b : Int) (w : World) : Calls Try.prog 25 #[.int .i64 a, .int .i64 b] w fun e w' => e = .returned (.int .i64 (cmpv a b)) ∧ w' = w := by
  have hn := fun x => nan_int x w
  unfold cmpv
  by_cases h1 : a < b
  · rw [if_pos h1]
    go_enter Try.func25, Try.ntmps25
    go_wp2_with (go_at_call 30; refine (hn _).mono ?_; rintro e w' ⟨rfl, rfl⟩)
    go_ret
    exact ⟨rfl, rfl⟩
  · rw [if_neg h1]
    by_cases h2 : b < a
    · rw [if_pos h2]
      go_enter Try.func25, Try.ntmps25
      go_wp2_with (go_at_call 30; refine (hn _).mono ?_; rintro e w' ⟨rfl, rfl⟩)
      go_ret
      exact ⟨rfl, rfl⟩
    · rw [if_neg h2]
      go_enter Try.func25, Try.ntmps25
      go_wp2_with (go_at_call 30; refine (hn _).mono ?_; rintro e w' ⟨rfl, rfl⟩)
      go_ret
      exact ⟨rfl, rfl⟩

def orv (l : List Int) : Int := (l.find? fun x => decide (x ≠ 0)).getD 0

theorem cmp_or (xs : List Int) (g off cap : Nat) (w : World) (hl : xs.length ≤ 1000) (hc : ∀ i x, xs[i]? = some x → w.cell? ⟨g, off + i, none⟩ = some (.int .i64 x)) :
    Calls Try.prog 24 #[.slice (some ⟨g, off, none⟩) xs.length cap] w fun e w' => e = .returned (.int .i64 (orv xs)) ∧ w' = w := by
  generalize hr : orv xs = res
  have HR := Lib.hid hr
  clear hr
  go_enter Try.func24, Try.ntmps24
  go_wp2
  go_loopw [8] (fun i wr => ∃ k : Nat, k ≤ xs.length ∧ i = .int .i64 k ∧ Hid (orv (xs.drop k) = res) ∧ wr = w) (fun i _ => xs.length - (intOf i).toNat)
  case atStart => exact ⟨0, by omega, rfl, HR, rfl⟩
  case round =>
    obtain ⟨k, hk, rfl, He, rfl⟩ := hrel
    by_cases hlt : k < xs.length
    · obtain ⟨x, hx⟩ : ∃ x, xs[k]? = some x := ⟨_, List.getElem?_eq_getElem hlt⟩
      have d0 := hc k x hx
      have hd : xs.drop k = x :: xs.drop (k + 1) := by
        rw [List.drop_eq_getElem_cons hlt]
        congr 1
        rw [List.getElem?_eq_getElem hlt] at hx
        exact Option.some.inj hx
      have he := He.out
      rw [hd] at he
      unfold orv at he
      clear hd hx hc
      by_cases h0 : x = 0
      · rw [List.find?_cons_of_neg (by simp [h0])] at he
        subst h0
        have HE := Lib.hid he
        clear he
        go_wp2
        go_roundw
        case rel => exact ⟨k + 1, by omega, by go_num, HE, trivial⟩
        case measure => simp [intOf]; omega
      · rw [List.find?_cons_of_pos (by simp [h0])] at he
        simp only [Option.getD_some] at he
        subst he
        have h0' : (x == 0) = false := by simpa using h0
        go_wp2
        go_ret
        exact ⟨rfl, rfl⟩
    · obtain rfl : k = xs.length := by omega
      have he := He.out
      rw [List.drop_length] at he
      unfold orv at he
      simp at he
      subst he
      go_wp2
      go_ret
      exact ⟨rfl, rfl⟩
end Go.Proofs.Ytkcclijckpbobaa
