/-
  The drawing of a converted color.
-/
import Derived.Test.YtnmegieibcmhcaaDraw2
import Derived.Test.YtnmegieibcmhcaaColor
import Derived.Deep.RegionWith
namespace Go.Proofs.Ytnmegieibcmhcaa
open Go.RowKit

theorem lumV_form (a b c : Int) : ∃ x y z, lumV a b c = colV x y z := by
  unfold lumV
  split
  · exact ⟨_, _, _, rfl⟩
  · exact ⟨_, _, _, rfl⟩
theorem lumV_in {a b c x y z : Int} (ha : 0 ≤ a ∧ a ≤ 255) (hb : 0 ≤ b ∧ b ≤ 255) (hc : 0 ≤ c ∧ c ≤ 255) (hf : lumV a b c = colV x y z) : -10000 ≤ x ∧ x ≤ 10000 := by
  unfold lumV at hf
  rw [if_pos ⟨ha, hb, hc⟩] at hf
  unfold colV at hf
  simp at hf
  obtain ⟨rfl, rfl, rfl⟩ := hf
  unfold lumY lumT
  omega

set_option maxHeartbeats 2000000 in
theorem DrawFromLuma (v : Value) (x : Option Addr × Nat × List Int) (w : World) (h : ArgBytes w v x) :
    Calls Try.prog 29 #[v] w fun e w' => ∃ a b c : Int, e = .returned (colV a b c) ∧ Q w w' := by
  have q0 : Q w (w.alloc (.cells #[.int .i64 0, .int .i64 0, .int .i64 0] 24)) := (by repeat (first | exact Q.refl _ | assumption | refine Q.drewN ?_ _ | refine Q.drew ?_ | refine Q.alloc ?_ _ | refine Q.trans ?_ (by assumption) | refine Q.set ?_ (by first | exact Nat.le_refl _ | omega | (simp; done) | (simp; omega)) _))
  have h0 := h.q q0
  have b0 := Blk.new w 24 #[.int .i64 0, .int .i64 0, .int .i64 0]
  go_enter Try.func29, Try.ntmps29
  go_wp2_with fail
  refine (openCode _ _ _ h0).mono ?_; rintro e w1 ⟨g, rfl, hg, r1, q1⟩
  rw [World.size_alloc] at hg
  have b1 := b0.q q1
  have Q1 := q0.trans q1
  go_wp2_with fail
  refine (pick _ _ _ _ r1 (by omega) (by omega) (by omega)).mono ?_; rintro e w2 ⟨a, rfl, a1, a2, r2, g2⟩
  have b2 := b1.draw g2 (by omega)
  have Q2 := Q1.draw g2 (by omega)
  go_wp2_with fail
  refine (pick _ _ _ _ r2 (by omega) (by omega) (by omega)).mono ?_; rintro e w3 ⟨b, rfl, a3, a4, r3, g3⟩
  have b3 := b2.draw g3 (by omega)
  have Q3 := Q2.draw g3 (by omega)
  go_wp2_with fail
  refine (pick _ _ _ _ r3 (by omega) (by omega) (by omega)).mono ?_; rintro e w4 ⟨c, rfl, a5, a6, r4, g4⟩
  have b4 := b3.draw g4 (by omega)
  have Q4 := Q3.draw g4 (by omega)
  obtain ⟨x, y, z, hf⟩ := lumV_form a b c
  obtain ⟨x1, x2⟩ := lumV_in (by omega) (by omega) (by omega) hf
  have HF := Lib.hid hf
  clear hf
  go_wp2_with fail
  refine (spec_ToLuma _ _ _ _).mono ?_; rw [HF.out]; unfold colV; rintro e w5 ⟨rfl, q5⟩
  have b5 := b4.q q5
  have r5 := r4.q q5
  have Q5 := Q4.trans q5
  have hl := r5.lt
  go_wp2_with fail
  have b6 := b5.alloc (.cells #[.int .i64 x, .int .i64 y, .int .i64 z] 24)
  have r6 := r5.alloc (.cells #[.int .i64 x, .int .i64 y, .int .i64 z] 24)
  have Q6 := Q5.alloc (.cells #[.int .i64 x, .int .i64 y, .int .i64 z] 24)
  have d6 := Blk.new w5 24 #[.int .i64 x, .int .i64 y, .int .i64 z]
  have hl' := Q5.size
  have hl5 := b5.lt
  generalize w5.heap.size = m at hl hl' d6 hl5 ⊢
  generalize w5.alloc (.cells #[.int .i64 x, .int .i64 y, .int .i64 z] 24) = w6 at b6 r6 Q6 d6 ⊢
  clear q0 h0 b0 q1 b1 Q1 r1 r2 g2 b2 Q2 r3 g3 b3 Q3 r4 g4 b4 Q4 q5 b5 r5 Q5
  refine (pick _ _ _ _ r6 (by omega) (by omega) (by omega)).mono ?_; rintro e w7 ⟨k, rfl, k1, k2, r7, g7⟩
  have b7 := b6.draw g7 (by omega)
  have Q7 := Q6.draw g7 (by omega)
  have d7 := d6.draw g7 (by omega)
  clear r6 g7 b6 Q6 d6
  obtain rfl | hk01 : k = 0 ∨ k ≠ 0 := by omega
  · have c7 := d7.cell
    have f7 := d7.free
    go_wp2_with fail
    go_region_with (first | (go_at_call 50; refine (pick _ _ _ _ (Rdr.drew r7) (by omega) (by omega) (by omega)).mono ?_; rintro e w8 ⟨p, rfl, p1, p2, r8, g8⟩; have b8 := Blk.draw (w := w7.drew) b7 g8 (by omega); have d8 := Blk.draw (w := w7.drew) d7 g8 (by omega); have Q8 := Q7.drew.draw g8 (by omega); have c8 := d8.cell; have f8 := d8.free; have e8 := b8.cell; have h8 := b8.free))
    all_goals
      go_wp2_with fail
      exact bodyPost_ret (v := .agg #[.int .i64 (x + p - 4), .int .i64 y, .int .i64 z]) (by simp [results, Try.results29, go_sem, e8]) rfl ⟨_, _, _, rfl, (by repeat (first | exact Q.refl _ | assumption | refine Q.drewN ?_ _ | refine Q.drew ?_ | refine Q.alloc ?_ _ | refine Q.trans ?_ (by assumption) | refine Q.set ?_ (by first | exact Nat.le_refl _ | omega | (simp; done) | (simp; omega)) _))⟩
  obtain rfl | hk1 : k = 1 ∨ k ≠ 1 := by omega
  · go_wp2_with fail
    have b8 := b7.alloc (.cells #[.int .i64 (-256), .int .i64 256, .int .i64 255, .int .i64 (-9223372036854775808)] 3)
    have r8 := r7.alloc (.cells #[.int .i64 (-256), .int .i64 256, .int .i64 255, .int .i64 (-9223372036854775808)] 3)
    have Q8 := Q7.alloc (.cells #[.int .i64 (-256), .int .i64 256, .int .i64 255, .int .i64 (-9223372036854775808)] 3)
    have d8 := d7.alloc (.cells #[.int .i64 (-256), .int .i64 256, .int .i64 255, .int .i64 (-9223372036854775808)] 3)
    have l8 := Blk.new w7 3 #[.int .i64 (-256), .int .i64 256, .int .i64 255, .int .i64 (-9223372036854775808)]
    have hm7 := d7.lt
    generalize w7.heap.size = m' at hm7 l8 ⊢
    generalize w7.alloc (.cells #[.int .i64 (-256), .int .i64 256, .int .i64 255, .int .i64 (-9223372036854775808)] 3) = w8 at b8 r8 Q8 d8 l8 ⊢
    clear r7 b7 Q7 d7
    refine (pick _ _ _ _ r8 (by omega) (by omega) (by omega)).mono ?_; rintro e w9 ⟨p, rfl, p1, p2, r9, g9⟩
    have b9 := b8.draw g9 (by omega)
    have Q9 := Q8.draw g9 (by omega)
    have d9 := d8.draw g9 (by omega)
    have l9 := l8.draw g9 (by omega)
    have c9 := b9.cell
    have f9 := b9.free
    have e9 := d9.cell
    have k9 := d9.free
    have i9 := l9.cell
    obtain rfl | rfl | rfl | rfl : p = 0 ∨ p = 1 ∨ p = 2 ∨ p = 3 := by omega
    · go_wp2_with fail
      exact bodyPost_ret (v := .agg #[.int .i64 x, .int .i64 y, .int .i64 (-256)]) (by simp [results, Try.results29, go_sem, c9]) rfl ⟨_, _, _, rfl, (by repeat (first | exact Q.refl _ | assumption | refine Q.drewN ?_ _ | refine Q.drew ?_ | refine Q.alloc ?_ _ | refine Q.trans ?_ (by assumption) | refine Q.set ?_ (by first | exact Nat.le_refl _ | omega | (simp; done) | (simp; omega)) _))⟩
    · go_wp2_with fail
      exact bodyPost_ret (v := .agg #[.int .i64 x, .int .i64 y, .int .i64 256]) (by simp [results, Try.results29, go_sem, c9]) rfl ⟨_, _, _, rfl, (by repeat (first | exact Q.refl _ | assumption | refine Q.drewN ?_ _ | refine Q.drew ?_ | refine Q.alloc ?_ _ | refine Q.trans ?_ (by assumption) | refine Q.set ?_ (by first | exact Nat.le_refl _ | omega | (simp; done) | (simp; omega)) _))⟩
    · go_wp2_with fail
      exact bodyPost_ret (v := .agg #[.int .i64 x, .int .i64 y, .int .i64 255]) (by simp [results, Try.results29, go_sem, c9]) rfl ⟨_, _, _, rfl, (by repeat (first | exact Q.refl _ | assumption | refine Q.drewN ?_ _ | refine Q.drew ?_ | refine Q.alloc ?_ _ | refine Q.trans ?_ (by assumption) | refine Q.set ?_ (by first | exact Nat.le_refl _ | omega | (simp; done) | (simp; omega)) _))⟩
    · go_wp2_with fail
      exact bodyPost_ret (v := .agg #[.int .i64 x, .int .i64 y, .int .i64 (-9223372036854775808)]) (by simp [results, Try.results29, go_sem, c9]) rfl ⟨_, _, _, rfl, (by repeat (first | exact Q.refl _ | assumption | refine Q.drewN ?_ _ | refine Q.drew ?_ | refine Q.alloc ?_ _ | refine Q.trans ?_ (by assumption) | refine Q.set ?_ (by first | exact Nat.le_refl _ | omega | (simp; done) | (simp; omega)) _))⟩
  · have hk0 : (k == 0) = false := by rw [beq_eq_false_iff_ne]; exact hk01
    have hk1' : (k == 1) = false := by rw [beq_eq_false_iff_ne]; exact hk1
    clear hk01 hk1
    have c9 := b7.cell
    have f9 := b7.free
    have e9 := d7.cell
    go_wp2_with fail
    exact bodyPost_ret (v := .agg #[.int .i64 x, .int .i64 y, .int .i64 z]) (by simp [results, Try.results29, go_sem, c9]) rfl ⟨_, _, _, rfl, (by repeat (first | exact Q.refl _ | assumption | refine Q.drewN ?_ _ | refine Q.drew ?_ | refine Q.alloc ?_ _ | refine Q.trans ?_ (by assumption) | refine Q.set ?_ (by first | exact Nat.le_refl _ | omega | (simp; done) | (simp; omega)) _))⟩
end Go.Proofs.Ytnmegieibcmhcaa
