/-
  Two pictures: whether they are alike; SceneCut, of the program and of the reference.
-/
import Derived.Test.YtoipcfpbkjanhaaHist
namespace Go.Proofs.Ytoipcfpbkjanhaa
open Go.RowKit

def sameB (W H : Int) (xs : List Int) (W' H' : Int) (ys : List Int) : Bool := picB W H xs && (picB W' H' ys && (decide (W = W') && decide (H = H')))

set_option maxHeartbeats 1000000 in
theorem impl_alike (W H W' H' : Int) (A A' : Option Addr) (n n' c c' B B' : Nat) (xs ys : List Int) (t : Bool) (w : World) (hx : Rd w B A xs) (hB : B ≤ w.heap.size) (hy : Rd w B' A' ys) (hB' : B' ≤ w.heap.size)
    (hn : Hid (xs.length = n)) (hn' : Hid (ys.length = n')) (hm : n ≤ 9223372036854775807) (hm' : n' ≤ 9223372036854775807) (ht : Hid (sameB W H xs W' H' ys = t)) :
    Calls Try.prog 48 #[.agg #[.int .i64 W, .int .i64 H, .slice A n c], .agg #[.int .i64 W', .int .i64 H', .slice A' n' c']] w fun e w' => e = .returned (.bool t) ∧ Q w w' := by
  have q0 : Q w ((w.alloc (.cells #[.int .i64 W, .int .i64 H, .slice A n c] 27)).alloc (.cells #[.int .i64 W', .int .i64 H', .slice A' n' c'] 27)) := (by repeat (first | exact Q.refl _ | assumption | refine Q.drewN ?_ _ | refine Q.drew ?_ | refine Q.alloc ?_ _ | refine Q.trans ?_ (by assumption) | refine Q.set ?_ (by first | exact Nat.le_refl _ | omega | (simp; done) | (simp; omega)) _)); have b0 := (Blk.new w 27 #[.int .i64 W, .int .i64 H, .slice A n c]).alloc (.cells #[.int .i64 W', .int .i64 H', .slice A' n' c'] 27); have d0 := Blk.new (w.alloc (.cells #[.int .i64 W, .int .i64 H, .slice A n c] 27)) 27 #[.int .i64 W', .int .i64 H', .slice A' n' c']; rw [World.size_alloc] at d0; have s0 := q0.size; have HX := Lib.hid (hx.q q0 hB); have HY := Lib.hid (hy.q q0 hB'); clear hx hy
  have HT : Hid (t = (picB W H xs && (picB W' H' ys && (decide (W = W') && decide (H = H'))))) := ht.out.symm
  cases hpa : picB W H xs
  · rw [hpa] at HT
    have PA := Lib.hid hpa
    clear hpa
    (go_enter Try.func48, Try.ntmps48; go_wp2_with fail; (refine (impl_PictureValid W H A n c _ xs _ _ HX.out (Nat.le_trans hB s0) hn hm PA).mono ?_; rintro e w1 ⟨rfl, q1⟩))
    go_wp2_with fail
    go_ret
    exact ⟨by rw [HT.out]; rfl, q0.trans q1⟩
  · rw [hpa] at HT
    have PA := Lib.hid hpa
    clear hpa
    cases hpb : picB W' H' ys
    · rw [hpb] at HT
      have PB := Lib.hid hpb
      clear hpb
      (go_enter Try.func48, Try.ntmps48; go_wp2_with fail; (refine (impl_PictureValid W H A n c _ xs _ _ HX.out (Nat.le_trans hB s0) hn hm PA).mono ?_; rintro e w1 ⟨rfl, q1⟩))
      have d1 := (d0.q q1).cell
      have b1 := (b0.q q1).cell
      have s1 := q1.size
      go_wp2_with fail
      refine (impl_PictureValid W' H' A' n' c' _ ys _ _ (HY.out.q q1 (by omega)) (by omega) hn' hm' PB).mono ?_; rintro e w2 ⟨rfl, q2⟩
      go_wp2_with fail
      go_ret
      exact ⟨by rw [HT.out]; rfl, (q0.trans q1).trans q2⟩
    · rw [hpb] at HT
      have PB := Lib.hid hpb
      clear hpb
      have hHT : t = (decide (W = W') && decide (H = H')) := by rw [HT.out]; rfl
      (go_enter Try.func48, Try.ntmps48; go_wp2_with fail; (refine (impl_PictureValid W H A n c _ xs _ _ HX.out (Nat.le_trans hB s0) hn hm PA).mono ?_; rintro e w1 ⟨rfl, q1⟩))
      have d1 := (d0.q q1).cell
      have b1 := (b0.q q1).cell
      have s1 := q1.size
      have HH := Lib.hid hHT
      clear hHT
      go_wp2_with fail
      refine (impl_PictureValid W' H' A' n' c' _ ys _ _ (HY.out.q q1 (by omega)) (by omega) hn' hm' PB).mono ?_; rintro e w2 ⟨rfl, q2⟩
      have d2 := (d0.q (q1.trans q2)).cell
      have b2 := (b0.q (q1.trans q2)).cell
      by_cases hW : W = W'
      · have hW' : (W == W') = true := by rw [beq_iff_eq]; exact hW
        rw [decide_eq_true hW] at HH
        clear hW
        by_cases hH : H = H'
        · have hH' : (H == H') = true := by rw [beq_iff_eq]; exact hH
          rw [decide_eq_true hH] at HH
          clear hH
          go_wp2_with fail
          go_ret
          exact ⟨by rw [HH.out]; simp, (q0.trans q1).trans q2⟩
        · have hH' : (H == H') = false := by rw [beq_eq_false_iff_ne]; exact hH
          rw [decide_eq_false hH] at HH
          clear hH
          go_wp2_with fail
          go_ret
          exact ⟨by rw [HH.out]; simp, (q0.trans q1).trans q2⟩
      · have hW' : (W == W') = false := by rw [beq_eq_false_iff_ne]; exact hW
        rw [decide_eq_false hW] at HH
        clear hW
        go_wp2_with fail
        go_ret
        exact ⟨by rw [HH.out]; simp, (q0.trans q1).trans q2⟩

set_option maxHeartbeats 1000000 in
theorem spec_l1Same (W H W' H' : Int) (A A' : Option Addr) (n n' c c' B B' : Nat) (xs ys : List Int) (t : Bool) (w : World) (hx : Rd w B A xs) (hB : B ≤ w.heap.size) (hy : Rd w B' A' ys) (hB' : B' ≤ w.heap.size)
    (hn : Hid (xs.length = n)) (hn' : Hid (ys.length = n')) (hm : n ≤ 9223372036854775807) (hm' : n' ≤ 9223372036854775807) (ht : Hid (sameB W H xs W' H' ys = t)) :
    Calls Try.prog 47 #[.agg #[.int .i64 W, .int .i64 H, .slice A n c], .agg #[.int .i64 W', .int .i64 H', .slice A' n' c']] w fun e w' => e = .returned (.bool t) ∧ Q w w' := by
  have q0 : Q w ((w.alloc (.cells #[.int .i64 W, .int .i64 H, .slice A n c] 27)).alloc (.cells #[.int .i64 W', .int .i64 H', .slice A' n' c'] 27)) := (by repeat (first | exact Q.refl _ | assumption | refine Q.drewN ?_ _ | refine Q.drew ?_ | refine Q.alloc ?_ _ | refine Q.trans ?_ (by assumption) | refine Q.set ?_ (by first | exact Nat.le_refl _ | omega | (simp; done) | (simp; omega)) _)); have b0 := (Blk.new w 27 #[.int .i64 W, .int .i64 H, .slice A n c]).alloc (.cells #[.int .i64 W', .int .i64 H', .slice A' n' c'] 27); have d0 := Blk.new (w.alloc (.cells #[.int .i64 W, .int .i64 H, .slice A n c] 27)) 27 #[.int .i64 W', .int .i64 H', .slice A' n' c']; rw [World.size_alloc] at d0; have s0 := q0.size; have HX := Lib.hid (hx.q q0 hB); have HY := Lib.hid (hy.q q0 hB'); clear hx hy
  have HT : Hid (t = (picB W H xs && (picB W' H' ys && (decide (W = W') && decide (H = H'))))) := ht.out.symm
  cases hpa : picB W H xs
  · rw [hpa] at HT
    have PA := Lib.hid hpa
    clear hpa
    (go_enter Try.func47, Try.ntmps47; go_wp2_with fail; (refine (spec_PictureValid W H A n c _ xs _ _ HX.out (Nat.le_trans hB s0) hn hm PA).mono ?_; rintro e w1 ⟨rfl, q1⟩))
    go_wp2_with fail
    go_ret
    exact ⟨by rw [HT.out]; rfl, q0.trans q1⟩
  · rw [hpa] at HT
    have PA := Lib.hid hpa
    clear hpa
    cases hpb : picB W' H' ys
    · rw [hpb] at HT
      have PB := Lib.hid hpb
      clear hpb
      (go_enter Try.func47, Try.ntmps47; go_wp2_with fail; (refine (spec_PictureValid W H A n c _ xs _ _ HX.out (Nat.le_trans hB s0) hn hm PA).mono ?_; rintro e w1 ⟨rfl, q1⟩))
      have d1 := (d0.q q1).cell
      have b1 := (b0.q q1).cell
      have s1 := q1.size
      go_wp2_with fail
      refine (spec_PictureValid W' H' A' n' c' _ ys _ _ (HY.out.q q1 (by omega)) (by omega) hn' hm' PB).mono ?_; rintro e w2 ⟨rfl, q2⟩
      go_wp2_with fail
      go_ret
      exact ⟨by rw [HT.out]; rfl, (q0.trans q1).trans q2⟩
    · rw [hpb] at HT
      have PB := Lib.hid hpb
      clear hpb
      have hHT : t = (decide (W = W') && decide (H = H')) := by rw [HT.out]; rfl
      (go_enter Try.func47, Try.ntmps47; go_wp2_with fail; (refine (spec_PictureValid W H A n c _ xs _ _ HX.out (Nat.le_trans hB s0) hn hm PA).mono ?_; rintro e w1 ⟨rfl, q1⟩))
      have d1 := (d0.q q1).cell
      have b1 := (b0.q q1).cell
      have s1 := q1.size
      have HH := Lib.hid hHT
      clear hHT
      go_wp2_with fail
      refine (spec_PictureValid W' H' A' n' c' _ ys _ _ (HY.out.q q1 (by omega)) (by omega) hn' hm' PB).mono ?_; rintro e w2 ⟨rfl, q2⟩
      have d2 := (d0.q (q1.trans q2)).cell
      have b2 := (b0.q (q1.trans q2)).cell
      by_cases hW : W = W'
      · have hW' : (W == W') = true := by rw [beq_iff_eq]; exact hW
        rw [decide_eq_true hW] at HH
        clear hW
        by_cases hH : H = H'
        · have hH' : (H == H') = true := by rw [beq_iff_eq]; exact hH
          rw [decide_eq_true hH] at HH
          clear hH
          go_wp2_with fail
          go_ret
          exact ⟨by rw [HH.out]; simp, (q0.trans q1).trans q2⟩
        · have hH' : (H == H') = false := by rw [beq_eq_false_iff_ne]; exact hH
          rw [decide_eq_false hH] at HH
          clear hH
          go_wp2_with fail
          go_ret
          exact ⟨by rw [HH.out]; simp, (q0.trans q1).trans q2⟩
      · have hW' : (W == W') = false := by rw [beq_eq_false_iff_ne]; exact hW
        rw [decide_eq_false hW] at HH
        clear hW
        go_wp2_with fail
        go_ret
        exact ⟨by rw [HH.out]; simp, (q0.trans q1).trans q2⟩
end Go.Proofs.Ytoipcfpbkjanhaa
