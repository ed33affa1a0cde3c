/-
  The drawing of a grid alone, and of a grid with workers.
-/
import Derived.Test.YtnmegieibcmhcaaGrid
namespace Go.Proofs.Ytnmegieibcmhcaa
open Go.RowKit

theorem DrawWaveOrder (v : Value) (x : Option Addr × Nat × List Int) (w : World) (h : ArgBytes w v x) :
    Calls Try.prog 47 #[v] w fun e w' => ∃ a b : Int, e = .returned (.tuple #[.int .i64 a, .int .i64 b]) ∧ ((1 ≤ a ∧ a ≤ 4 ∧ 1 ≤ b ∧ b ≤ 4) ∨ ((a = 0 ∨ a = 5 ∨ a = -1) ∧ b = 2)) ∧ Q w w' := by
  go_enter Try.func47, Try.ntmps47
  go_wp2_with fail
  refine (openCode _ _ _ h).mono ?_; rintro e w1 ⟨g, rfl, hg, r1, q1⟩
  go_wp2_with fail
  refine (l20Grid _ _ _ r1 (by omega)).mono ?_; rintro e w2 ⟨a, b, rfl, hab, r2, g2⟩
  have Q2 := q1.draw g2 hg
  have Hab := Lib.hid hab
  clear hab
  go_wp2_with fail
  exact bodyPost_ret (v := .tuple #[.int .i64 a, .int .i64 b]) (by simp [results, Try.results47, go_sem]) rfl ⟨_, _, rfl, Hab.out, Q2⟩

theorem DrawWaveTime (v : Value) (x : Option Addr × Nat × List Int) (w : World) (h : ArgBytes w v x) :
    Calls Try.prog 48 #[v] w fun e w' => ∃ a b n : Int, e = .returned (.tuple #[.int .i64 a, .int .i64 b, .int .i64 n]) ∧ ((1 ≤ a ∧ a ≤ 4 ∧ 1 ≤ b ∧ b ≤ 4) ∨ ((a = 0 ∨ a = 5 ∨ a = -1) ∧ b = 2)) ∧ 0 ≤ n ∧ n ≤ 25 ∧ Q w w' := by
  go_enter Try.func48, Try.ntmps48
  go_wp2_with fail
  refine (openCode _ _ _ h).mono ?_; rintro e w1 ⟨g, rfl, hg, r1, q1⟩
  go_wp2_with fail
  refine (l20Grid _ _ _ r1 (by omega)).mono ?_; rintro e w2 ⟨a, b, rfl, hab, r2, g2⟩
  have Q2 := q1.draw g2 hg
  have Hab := Lib.hid hab
  clear hab
  go_wp2_with fail
  refine (pick _ _ _ _ r2 (by omega) (by omega) (by omega)).mono ?_; rintro e w3 ⟨c, rfl, c1, c2, r3, g3⟩
  go_wp2_with fail
  refine (pick _ _ _ _ r3 (by omega) (by omega) (by omega)).mono ?_; rintro e w4 ⟨d, rfl, d1, d2, r4, g4⟩
  go_wp2_with fail
  exact bodyPost_ret (v := .tuple #[.int .i64 a, .int .i64 b, .int .i64 (c + d / 11 * 20)]) (by simp [results, Try.results48, go_sem]) rfl ⟨_, _, _, rfl, Hab.out, by omega, by omega, (Q2.draw g3 hg).draw g4 hg⟩
end Go.Proofs.Ytnmegieibcmhcaa
