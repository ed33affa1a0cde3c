/-
  The drawing of colors.
-/
import Derived.Test.YtnmegieibcmhcaaDraw2
import Derived.Test.YtnmegieibcmhcaaColor
namespace Go.Proofs.Ytnmegieibcmhcaa
open Go.RowKit

set_option maxHeartbeats 2000000 in
theorem DrawToLuma (v : Value) (x : Option Addr × Nat × List Int) (w : World) (h : ArgBytes w v x) :
    Calls Try.prog 15 #[v] w fun e w' => ∃ a b c : Int, e = .returned (colV a b c) ∧ ((0 ≤ a ∧ a ≤ 255) ∧ (0 ≤ c ∧ c ≤ 255) ∧ ((0 ≤ b ∧ b ≤ 255) ∨ b = -1 ∨ b = 256)) ∧ Q w w' := by
  have q0 : Q w (w.alloc (.cells #[.int .i64 0, .int .i64 0, .int .i64 0] 24)) := (by repeat (first | exact Q.refl _ | assumption | refine Q.drewN ?_ _ | refine Q.drew ?_ | refine Q.alloc ?_ _ | refine Q.trans ?_ (by assumption) | refine Q.set ?_ (by first | exact Nat.le_refl _ | omega | (simp; done) | (simp; omega)) _))
  have h0 := h.q q0
  have b0 := Blk.new w 24 #[.int .i64 0, .int .i64 0, .int .i64 0]
  go_enter Try.func15, Try.ntmps15
  go_wp2_with fail
  refine (openCode _ _ _ h0).mono ?_; rintro e w1 ⟨g, rfl, hg, r1, q1⟩
  rw [World.size_alloc] at hg
  have b1 := b0.q q1
  have Q1 := q0.trans q1
  go_wp2_with fail
  refine (pick _ _ _ _ r1 (by omega) (by omega) (by omega)).mono ?_; rintro e w2 ⟨a, rfl, a1, a2, r2, g2⟩
  have b2 := b1.draw g2 (by omega)
  have Q2 := Q1.draw g2 (by omega)
  go_wp2_with fail
  refine (pick _ _ _ _ r2 (by omega) (by omega) (by omega)).mono ?_; rintro e w3 ⟨b, rfl, a3, a4, r3, g3⟩
  have b3 := b2.draw g3 (by omega)
  have Q3 := Q2.draw g3 (by omega)
  go_wp2_with fail
  refine (pick _ _ _ _ r3 (by omega) (by omega) (by omega)).mono ?_; rintro e w4 ⟨c, rfl, a5, a6, r4, g4⟩
  have b4 := b3.draw g4 (by omega)
  have Q4 := Q3.draw g4 (by omega)
  go_wp2_with fail
  have hl := r4.lt
  have hl' := Q4.size
  have b5 := b4.alloc (.cells #[.int .i64 a, .int .i64 b, .int .i64 c] 24)
  have r5 := r4.alloc (.cells #[.int .i64 a, .int .i64 b, .int .i64 c] 24)
  have Q5 := Q4.alloc (.cells #[.int .i64 a, .int .i64 b, .int .i64 c] 24)
  have d5 := Blk.new w4 24 #[.int .i64 a, .int .i64 b, .int .i64 c]
  generalize w4.heap.size = m at hl hl' d5 ⊢
  generalize w4.alloc (.cells #[.int .i64 a, .int .i64 b, .int .i64 c] 24) = w5 at b5 r5 Q5 d5 ⊢
  have hm5 := d5.lt
  clear q0 h0 b0 q1 b1 Q1 r1 r2 g2 b2 Q2 r3 g3 b3 Q3 r4 g4 b4 Q4
  refine (odd _ _ _ _ r5 (by omega) (by omega) (by omega)).mono ?_; rintro e w6 ⟨t, rfl, r6, g6⟩
  have b6 := b5.draw g6 (by omega)
  have Q6 := Q5.draw g6 (by omega)
  have d6 := d5.draw g6 (by omega)
  cases t
  · have c6 := b6.cell
    have f6 := b6.free
    have e6 := d6.cell
    go_wp2_with fail
    exact bodyPost_ret (v := .agg #[.int .i64 a, .int .i64 b, .int .i64 c]) (by simp [results, Try.results15, go_sem, c6]) rfl ⟨_, _, _, rfl, by omega, (by repeat (first | exact Q.refl _ | assumption | refine Q.drewN ?_ _ | refine Q.drew ?_ | refine Q.alloc ?_ _ | refine Q.trans ?_ (by assumption) | refine Q.set ?_ (by first | exact Nat.le_refl _ | omega | (simp; done) | (simp; omega)) _))⟩
  · go_wp2_with fail
    have b7 := b6.alloc (.cells #[.int .i64 (-1), .int .i64 256] 3)
    have r7 := r6.alloc (.cells #[.int .i64 (-1), .int .i64 256] 3)
    have Q7 := Q6.alloc (.cells #[.int .i64 (-1), .int .i64 256] 3)
    have d7 := d6.alloc (.cells #[.int .i64 (-1), .int .i64 256] 3)
    have l7 := Blk.new w6 3 #[.int .i64 (-1), .int .i64 256]
    have hm6 := d6.lt
    generalize w6.heap.size = m' at hm6 l7 ⊢
    generalize w6.alloc (.cells #[.int .i64 (-1), .int .i64 256] 3) = w7 at b7 r7 Q7 d7 l7 ⊢
    clear b5 r5 Q5 d5 r6 g6 b6 Q6 d6
    refine (pick _ _ _ _ r7 (by omega) (by omega) (by omega)).mono ?_; rintro e w8 ⟨x, rfl, a7, a8, r8, g8⟩
    have b8 := b7.draw g8 (by omega)
    have Q8 := Q7.draw g8 (by omega)
    have d8 := d7.draw g8 (by omega)
    have l8 := l7.draw g8 (by omega)
    have c8 := b8.cell
    have f8 := b8.free
    have e8 := d8.cell
    have k8 := d8.free
    have i8 := l8.cell
    obtain rfl | rfl : x = 0 ∨ x = 1 := by omega
    · go_wp2_with fail
      exact bodyPost_ret (v := .agg #[.int .i64 a, .int .i64 (-1), .int .i64 c]) (by simp [results, Try.results15, go_sem, c8]) rfl ⟨_, _, _, rfl, by omega, (by repeat (first | exact Q.refl _ | assumption | refine Q.drewN ?_ _ | refine Q.drew ?_ | refine Q.alloc ?_ _ | refine Q.trans ?_ (by assumption) | refine Q.set ?_ (by first | exact Nat.le_refl _ | omega | (simp; done) | (simp; omega)) _))⟩
    · go_wp2_with fail
      exact bodyPost_ret (v := .agg #[.int .i64 a, .int .i64 256, .int .i64 c]) (by simp [results, Try.results15, go_sem, c8]) rfl ⟨_, _, _, rfl, by omega, (by repeat (first | exact Q.refl _ | assumption | refine Q.drewN ?_ _ | refine Q.drew ?_ | refine Q.alloc ?_ _ | refine Q.trans ?_ (by assumption) | refine Q.set ?_ (by first | exact Nat.le_refl _ | omega | (simp; done) | (simp; omega)) _))⟩
end Go.Proofs.Ytnmegieibcmhcaa
