/-
  The reference's test 'n is in lo..hi', and other small functions that most texts meet.
-/
import Derived.Test.YtkdmhlbmhjolcaaDoorProg
import Derived.Test.YtkdmhlbmhjolcaaDoorLib
namespace Go.Proofs.YtkdmhlbmhjolcaaDoor
open Go.RowKit

theorem l1In_tt (n lo hi : Int) (w : World) (h1 : lo ≤ n) (h2 : n ≤ hi) :
    Calls Tryd.prog 31 #[.int .i64 n, .int .i64 lo, .int .i64 hi] w fun e w' => e = .returned (.bool true) ∧ w = w' := by
  go_enter Tryd.func31, Tryd.ntmps31
  go_wp2
  go_ret; exact ⟨by simp [*], rfl⟩
theorem l1In_ff (n lo hi : Int) (w : World) (h1 : n < lo ∨ hi < n) :
    Calls Tryd.prog 31 #[.int .i64 n, .int .i64 lo, .int .i64 hi] w fun e w' => e = .returned (.bool false) ∧ w = w' := by
  rcases h1 with h | h
  · go_enter Tryd.func31, Tryd.ntmps31
    go_wp2
    go_ret; exact ⟨by simp, rfl⟩
  · have h' : decide (n ≤ hi) = false := by simp; omega
    go_enter Tryd.func31, Tryd.ntmps31
    go_wp2
    all_goals (go_ret; exact ⟨by simp [*], rfl⟩)
/-- 'n is in lo..hi', by a Bool that is known. -/
theorem l1In_b (n lo hi : Int) (b : Bool) (w : World) (h : Hid (decide (lo ≤ n ∧ n ≤ hi) = b)) :
    Calls Tryd.prog 31 #[.int .i64 n, .int .i64 lo, .int .i64 hi] w fun e w' => e = .returned (.bool b) ∧ w = w' := by
  have h := h.out
  cases b
  · exact l1In_ff n lo hi w (by have := of_decide_eq_false h; omega)
  · have h := of_decide_eq_true h; exact l1In_tt n lo hi w h.1 h.2


/-- 'n is in 0..255' -/
theorem sampleValid_b (n : Int) (b : Bool) (w : World) (h : Hid (decide (0 ≤ n ∧ n ≤ 255) = b)) :
    Calls Tryd.prog 58 #[.int .i64 n] w fun e w' => e = .returned (.bool b) ∧ w = w' := by
  have h := h.out
  subst h
  by_cases h1 : 0 ≤ n
  · by_cases h2 : n ≤ 255
    · rw [decide_eq_true ⟨h1, h2⟩]
      go_enter Tryd.func58, Tryd.ntmps58
      go_wp2
      go_ret; exact ⟨by simp [*], rfl⟩
    · rw [decide_eq_false (fun h => h2 h.2)]
      have h3 : decide (n ≤ 255) = false := by simp; omega
      clear h2
      go_enter Tryd.func58, Tryd.ntmps58
      go_wp2
      all_goals (go_ret; exact ⟨by simp [*], rfl⟩)
  · rw [decide_eq_false (fun h => h1 h.1)]
    have h3 : n < 0 := by omega
    clear h1
    go_enter Tryd.func58, Tryd.ntmps58
    go_wp2
    all_goals (go_ret; exact ⟨by simp, rfl⟩)
end Go.Proofs.YtkdmhlbmhjolcaaDoor
