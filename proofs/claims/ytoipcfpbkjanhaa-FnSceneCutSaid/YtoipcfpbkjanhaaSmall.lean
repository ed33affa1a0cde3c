/-
  The reference's test 'n is in lo..hi', and other small functions that most texts meet.
-/
import Derived.Test.YtoipcfpbkjanhaaProg
import Derived.Test.YtoipcfpbkjanhaaLib
namespace Go.Proofs.Ytoipcfpbkjanhaa
open Go.RowKit

theorem l1In_tt (n lo hi : Int) (w : World) (h1 : lo ≤ n) (h2 : n ≤ hi) :
    Calls Try.prog 50 #[.int .i64 n, .int .i64 lo, .int .i64 hi] w fun e w' => e = .returned (.bool true) ∧ w = w' := by
  go_enter Try.func50, Try.ntmps50
  go_wp2
  go_ret; exact ⟨by simp [*], rfl⟩
theorem l1In_ff (n lo hi : Int) (w : World) (h1 : n < lo ∨ hi < n) :
    Calls Try.prog 50 #[.int .i64 n, .int .i64 lo, .int .i64 hi] w fun e w' => e = .returned (.bool false) ∧ w = w' := by
  rcases h1 with h | h
  · go_enter Try.func50, Try.ntmps50
    go_wp2
    go_ret; exact ⟨by simp, rfl⟩
  · have h' : decide (n ≤ hi) = false := by simp; omega
    go_enter Try.func50, Try.ntmps50
    go_wp2
    all_goals (go_ret; exact ⟨by simp [*], rfl⟩)
/-- 'n is in lo..hi', by a Bool that is known. -/
theorem l1In_b (n lo hi : Int) (b : Bool) (w : World) (h : Hid (decide (lo ≤ n ∧ n ≤ hi) = b)) :
    Calls Try.prog 50 #[.int .i64 n, .int .i64 lo, .int .i64 hi] w fun e w' => e = .returned (.bool b) ∧ w = w' := by
  have h := h.out
  cases b
  · exact l1In_ff n lo hi w (by have := of_decide_eq_false h; omega)
  · have h := of_decide_eq_true h; exact l1In_tt n lo hi w h.1 h.2

theorem tdiv_floor (n d : Int) (hd : 0 < d) : (n.tmod d < 0 ∧ n.tdiv d - 1 = n / d) ∨ (0 ≤ n.tmod d ∧ n.tdiv d = n / d) := by
  have hm := Int.emod_nonneg n (show d ≠ 0 by omega)
  have hl := Int.emod_lt_of_pos n hd
  rw [Int.tdiv_eq_ediv, Int.tmod_eq_emod]
  by_cases h : 0 ≤ n ∨ d ∣ n
  · rw [if_pos h, if_pos h]; right; constructor <;> omega
  · rw [if_neg h, if_neg h, Int.sign_eq_one_of_pos hd]; left; constructor <;> omega
/-- division, rounded down -/
theorem l7Floor (n d : Int) (w : World) (hd : 0 < d) (hd2 : d ≤ 1000000) (h1 : -1000000000000 ≤ n) (h2 : n ≤ 1000000000000) :
    Calls Try.prog 70 #[.int .i64 n, .int .i64 d] w fun e w' => e = .returned (.int .i64 (n / d)) ∧ w = w' := by
  have hq1 : n / d ≤ 1000000000000 := Int.le_trans (Int.ediv_le_ediv hd h2) (Int.ediv_le_self _ (by omega))
  have hq2 : -1000000000000 ≤ n / d := by
    rw [Int.le_ediv_iff_mul_le hd]
    have : 1000000000000 * 1 ≤ 1000000000000 * d := Int.mul_le_mul_of_nonneg_left hd (by omega)
    rw [Int.neg_mul]
    omega
  rcases tdiv_floor n d hd with ⟨ht, he⟩ | ⟨ht, he⟩
  · have b1 : n.tdiv d ≤ 1000000000001 := by omega
    have b2 : -1000000000000 ≤ n.tdiv d := by omega
    have H := Lib.hid he
    clear he hq1 hq2
    go_enter Try.func70, Try.ntmps70
    go_wp2
    go_ret
    exact ⟨by rw [← H.out]; rfl, rfl⟩
  · have b1 : n.tdiv d ≤ 1000000000001 := by omega
    have b2 : -1000000000000 ≤ n.tdiv d := by omega
    have H := Lib.hid he
    clear he hq1 hq2
    go_enter Try.func70, Try.ntmps70
    go_wp2
    go_ret
    exact ⟨by rw [← H.out]; rfl, rfl⟩

/-- 'n is in 0..255' -/
theorem sampleValid_b (n : Int) (b : Bool) (w : World) (h : Hid (decide (0 ≤ n ∧ n ≤ 255) = b)) :
    Calls Try.prog 64 #[.int .i64 n] w fun e w' => e = .returned (.bool b) ∧ w = w' := by
  have h := h.out
  subst h
  by_cases h1 : 0 ≤ n
  · by_cases h2 : n ≤ 255
    · rw [decide_eq_true ⟨h1, h2⟩]
      go_enter Try.func64, Try.ntmps64
      go_wp2
      go_ret; exact ⟨by simp [*], rfl⟩
    · rw [decide_eq_false (fun h => h2 h.2)]
      have h3 : decide (n ≤ 255) = false := by simp; omega
      clear h2
      go_enter Try.func64, Try.ntmps64
      go_wp2
      all_goals (go_ret; exact ⟨by simp [*], rfl⟩)
  · rw [decide_eq_false (fun h => h1 h.1)]
    have h3 : n < 0 := by omega
    clear h1
    go_enter Try.func64, Try.ntmps64
    go_wp2
    all_goals (go_ret; exact ⟨by simp, rfl⟩)
end Go.Proofs.Ytoipcfpbkjanhaa
