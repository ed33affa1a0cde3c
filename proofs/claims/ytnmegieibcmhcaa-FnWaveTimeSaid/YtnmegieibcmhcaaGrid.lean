/-
  The drawing of a grid, and of a number in it.
-/
import Derived.Test.YtnmegieibcmhcaaDraw2
namespace Go.Proofs.Ytnmegieibcmhcaa
open Go.RowKit

theorem grownBy_alloc {a w : World} {row : Option Nat} (h : a.grownBy w row) (o : Obj) : a.grownBy (w.alloc o) row :=
  h.andThen (row' := none) ⟨rfl, rfl, rfl, by rw [World.size_alloc]; exact Nat.le_succ _, fun i hi _ => (Below.block (Below.alloc (Below.refl _ _) (Nat.le_refl _) o) i hi)⟩ (fun _ e => by cases e)
theorem grownBy_after {a b c : World} {g : Nat} (h : a.grownBy b (some g)) (k : b.grownBy c (some g)) : a.grownBy c (some g) := h.andThen k (fun _ e => .inr e)

set_option maxHeartbeats 1000000 in
theorem l20Grid (g P : Nat) (w : World) (h : Rdr w g P) (hP : P ≤ 900000) :
    Calls Try.prog 64 #[.pointer (some ⟨g, 0, none⟩)] w fun e w' => ∃ a b : Int, e = .returned (.tuple #[.int .i64 a, .int .i64 b]) ∧ ((1 ≤ a ∧ a ≤ 4 ∧ 1 ≤ b ∧ b ≤ 4) ∨ ((a = 0 ∨ a = 5 ∨ a = -1) ∧ b = 2)) ∧ Rdr w' g (P + 3) ∧ w.grownBy w' (some g) := by
  have hl := h.lt
  go_enter Try.func64, Try.ntmps64
  go_wp2_with fail
  refine (odd _ _ _ _ h (by omega) (by omega) (by omega)).mono ?_; rintro e w1 ⟨t, rfl, r1, g1⟩
  cases t
  · go_wp2_with fail
    refine (pick _ _ _ _ r1 (by omega) (by omega) (by omega)).mono ?_; rintro e w2 ⟨x, rfl, x1, x2, r2, g2⟩
    go_wp2_with fail
    refine (pick _ _ _ _ r2 (by omega) (by omega) (by omega)).mono ?_; rintro e w3 ⟨y, rfl, y1, y2, r3, g3⟩
    go_wp2_with fail
    exact bodyPost_ret (v := .tuple #[.int .i64 (1 + x), .int .i64 (1 + y)]) (by simp [results, Try.results64, go_sem]) rfl ⟨_, _, rfl, .inl (by omega), r3, grownBy_after g1 (grownBy_after g2 g3)⟩
  · go_wp2_with fail
    have r2 := r1.alloc (.cells #[.int .i64 0, .int .i64 5, .int .i64 (-1)] 3)
    have g2 := grownBy_alloc g1 (.cells #[.int .i64 0, .int .i64 5, .int .i64 (-1)] 3)
    have l2 := Blk.new w1 3 #[.int .i64 0, .int .i64 5, .int .i64 (-1)]
    have hl1 := r1.lt
    generalize w1.heap.size = m at hl1 l2 ⊢
    generalize w1.alloc (.cells #[.int .i64 0, .int .i64 5, .int .i64 (-1)] 3) = w2 at r2 g2 l2 ⊢
    refine (pick _ _ _ _ r2 (by omega) (by omega) (by omega)).mono ?_; rintro e w3 ⟨x, rfl, x1, x2, r3, g3⟩
    have l3 := (l2.draw g3 (by omega)).cell
    obtain rfl | rfl | rfl : x = 0 ∨ x = 1 ∨ x = 2 := by omega
    · go_wp2_with fail
      exact bodyPost_ret (v := .tuple #[.int .i64 0, .int .i64 2]) (by simp [results, Try.results64, go_sem]) rfl ⟨_, _, rfl, .inr (by simp), r3.more (by omega), grownBy_after g2 g3⟩
    · go_wp2_with fail
      exact bodyPost_ret (v := .tuple #[.int .i64 5, .int .i64 2]) (by simp [results, Try.results64, go_sem]) rfl ⟨_, _, rfl, .inr (by simp), r3.more (by omega), grownBy_after g2 g3⟩
    · go_wp2_with fail
      exact bodyPost_ret (v := .tuple #[.int .i64 (-1), .int .i64 2]) (by simp [results, Try.results64, go_sem]) rfl ⟨_, _, rfl, .inr (by simp), r3.more (by omega), grownBy_after g2 g3⟩

theorem DrawWaveNeeds (v : Value) (x : Option Addr × Nat × List Int) (w : World) (h : ArgBytes w v x) :
    Calls Try.prog 35 #[v] w fun e w' => ∃ a b n : Int, e = .returned (.tuple #[.int .i64 a, .int .i64 b, .int .i64 n]) ∧ ((1 ≤ a ∧ a ≤ 4 ∧ 1 ≤ b ∧ b ≤ 4) ∨ ((a = 0 ∨ a = 5 ∨ a = -1) ∧ b = 2)) ∧ Q w w' := by
  go_enter Try.func35, Try.ntmps35
  go_wp2_with fail
  refine (openCode _ _ _ h).mono ?_; rintro e w1 ⟨g, rfl, hg, r1, q1⟩
  go_wp2_with fail
  refine (l20Grid _ _ _ r1 (by omega)).mono ?_; rintro e w2 ⟨a, b, rfl, hab, r2, g2⟩
  have Q2 := q1.draw g2 hg
  have hp1 : -2 ≤ a * b := by
    rcases hab with ⟨h1, h2, h3, h4⟩ | ⟨h1 | h1 | h1, h2⟩
    · exact Int.le_trans (by omega) (Int.mul_nonneg (by omega) (by omega))
    all_goals subst h1 h2; omega
  have hp2 : a * b ≤ 16 := by
    rcases hab with ⟨h1, h2, h3, h4⟩ | ⟨h1 | h1 | h1, h2⟩
    · exact Int.le_trans (Int.mul_le_mul h2 h4 (by omega) (by omega)) (by omega)
    all_goals subst h1 h2; omega
  have Hab := Lib.hid hab
  clear hab
  go_wp2_with fail
  all_goals
    refine (pick _ _ _ _ r2 (by omega) (by omega) (by omega)).mono ?_; rintro e w3 ⟨c, rfl, c1, c2, r3, g3⟩
    go_wp2_with fail
    refine (pick _ _ _ _ r3 (by omega) (by omega) (by omega)).mono ?_; rintro e w4 ⟨d, rfl, d1, d2, r4, g4⟩
    go_wp2_with fail
    exact bodyPost_ret (v := .tuple #[.int .i64 a, .int .i64 b, .int .i64 (c - d / 8)]) (by simp [results, Try.results35, go_sem]) rfl ⟨_, _, _, rfl, Hab.out, (Q2.draw g3 hg).draw g4 hg⟩

theorem DrawWaveStep (v : Value) (x : Option Addr × Nat × List Int) (w : World) (h : ArgBytes w v x) :
    Calls Try.prog 31 #[v] w fun e w' => ∃ a b n : Int, e = .returned (.tuple #[.int .i64 a, .int .i64 b, .int .i64 n]) ∧ ((1 ≤ a ∧ a ≤ 4 ∧ 1 ≤ b ∧ b ≤ 4) ∨ ((a = 0 ∨ a = 5 ∨ a = -1) ∧ b = 2)) ∧ Q w w' := by
  go_enter Try.func31, Try.ntmps31
  go_wp2_with fail
  refine (DrawWaveNeeds _ _ _ h).mono ?_; rintro e w1 ⟨a, b, n, rfl, hab, q1⟩
  go_wp2_with fail
  exact bodyPost_ret (v := .tuple #[.int .i64 a, .int .i64 b, .int .i64 n]) (by simp [results, Try.results31, go_sem]) rfl ⟨_, _, _, rfl, hab, q1⟩
end Go.Proofs.Ytnmegieibcmhcaa
