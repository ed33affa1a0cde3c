/-
  The laws' absolute value.
-/
import Derived.Test.YtkdmhlbmhjolcaaDoorProg
import Derived.Test.YtkdmhlbmhjolcaaDoorLib
namespace Go.Proofs.YtkdmhlbmhjolcaaDoor
open Go.RowKit

theorem abs_any (n : Int) (w : World) (h1 : -1000000000000 ≤ n) (h2 : n ≤ 1000000000000) :
    Calls Tryd.prog 25 #[.int .i64 n] w fun e w' => ∃ m : Int, e = .returned (.int .i64 m) ∧ 0 ≤ m ∧ (m = n ∨ m = -n) ∧ w = w' := by
  go_enter Tryd.func25, Tryd.ntmps25
  go_wp2
  · go_ret
    exact ⟨_, rfl, by omega, by omega, rfl⟩
  · go_ret
    exact ⟨_, rfl, by omega, by omega, rfl⟩

def absV (n : Int) : Int := if n < 0 then -n else n
/-- the same, by its value -/
theorem abs_val (n : Int) (w : World) (h1 : -1000000000000 ≤ n) (h2 : n ≤ 1000000000000) :
    Calls Tryd.prog 25 #[.int .i64 n] w fun e w' => e = .returned (.int .i64 (absV n)) ∧ w = w' := by
  unfold absV
  by_cases h : n < 0
  · rw [if_pos h]
    go_enter Tryd.func25, Tryd.ntmps25
    go_wp2
    go_ret
    exact ⟨rfl, rfl⟩
  · rw [if_neg h]
    by_cases h0 : n = 0
    · subst h0
      go_enter Tryd.func25, Tryd.ntmps25
      go_wp2
      go_ret
      exact ⟨rfl, rfl⟩
    · go_enter Tryd.func25, Tryd.ntmps25
      go_wp2
      go_ret
      exact ⟨rfl, rfl⟩
end Go.Proofs.YtkdmhlbmhjolcaaDoor
