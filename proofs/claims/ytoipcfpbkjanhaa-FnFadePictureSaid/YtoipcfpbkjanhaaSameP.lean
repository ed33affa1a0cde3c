/-
  The laws' comparison of two pictures.
-/
import Derived.Test.YtoipcfpbkjanhaaSame
import Derived.Test.YtoipcfpbkjanhaaPicts
namespace Go.Proofs.Ytoipcfpbkjanhaa
open Go.RowKit

set_option maxHeartbeats 1000000 in
theorem samePicture (W H W' H' : Int) (A A' : Option Addr) (n n' c c' B B' : Nat) (xs ys : List Int) (t : Bool) (w : World) (hx : Rd w B A xs) (hB : B ≤ w.heap.size) (hy : Rd w B' A' ys) (hB' : B' ≤ w.heap.size) (hn : Hid (xs.length = n)) (hn' : Hid (ys.length = n')) (lx : n ≤ maxLen) (ly : n' ≤ maxLen)
    (ht : Hid (decide (W = W' ∧ H = H' ∧ xs = ys) = t)) :
    Calls Try.prog 37 #[.agg #[.int .i64 W, .int .i64 H, .slice A n c], .agg #[.int .i64 W', .int .i64 H', .slice A' n' c']] w fun e w' => e = .returned (.bool t) ∧ Q w w' := by
  have q0 : Q w ((w.alloc (.cells #[.int .i64 W, .int .i64 H, .slice A n c] 27)).alloc (.cells #[.int .i64 W', .int .i64 H', .slice A' n' c'] 27)) := (by repeat (first | exact Q.refl _ | assumption | refine Q.drewN ?_ _ | refine Q.drew ?_ | refine Q.alloc ?_ _ | refine Q.trans ?_ (by assumption) | refine Q.set ?_ (by first | exact Nat.le_refl _ | omega | (simp; done) | (simp; omega)) _))
  have HX := Lib.hid (hx.q q0 hB)
  have HY := Lib.hid (hy.q q0 hB')
  clear hx hy
  by_cases hW : W = W'
  · have hW' : (W == W') = true := by rw [beq_iff_eq]; exact hW
    by_cases hH : H = H'
    · have hH' : (H == H') = true := by rw [beq_iff_eq]; exact hH
      cases he : (xs == ys)
      · have HE := Lib.hid he
        have ht' : Hid (t = false) := by rw [Hid, ← ht.out]; exact decide_eq_false (fun h => by have := h.2.2; rw [beq_eq_false_iff_ne] at he; exact he this)
        clear he hW hH
        go_enter Try.func37, Try.ntmps37
        go_wp2_with fail
        refine (sameInts A A' n n' c c' _ _ xs ys _ HX.out HY.out hn.out hn'.out lx ly).mono ?_; rw [HE.out]; rintro e w' ⟨rfl, k, rfl⟩
        go_wp2_with fail
        go_ret
        exact ⟨by rw [ht'.out]; rfl, q0.drewN _⟩
      · have HE := Lib.hid he
        have ht' : Hid (t = true) := by rw [Hid, ← ht.out]; exact decide_eq_true ⟨hW, hH, by rw [beq_iff_eq] at he; exact he⟩
        clear he hW hH
        go_enter Try.func37, Try.ntmps37
        go_wp2_with fail
        refine (sameInts A A' n n' c c' _ _ xs ys _ HX.out HY.out hn.out hn'.out lx ly).mono ?_; rw [HE.out]; rintro e w' ⟨rfl, k, rfl⟩
        go_wp2_with fail
        go_ret
        exact ⟨by rw [ht'.out]; rfl, q0.drewN _⟩
    · have hH' : (H == H') = false := by rw [beq_eq_false_iff_ne]; exact hH
      have ht' : Hid (t = false) := by rw [Hid, ← ht.out]; exact decide_eq_false (fun h => hH h.2.1)
      clear hW hH
      go_enter Try.func37, Try.ntmps37
      go_wp2_with fail
      go_ret
      exact ⟨by rw [ht'.out]; rfl, q0⟩
  · have hW' : (W == W') = false := by rw [beq_eq_false_iff_ne]; exact hW
    have ht' : Hid (t = false) := by rw [Hid, ← ht.out]; exact decide_eq_false (fun h => hW h.1)
    clear hW
    go_enter Try.func37, Try.ntmps37
    go_wp2_with fail
    go_ret
    exact ⟨by rw [ht'.out]; rfl, q0⟩
end Go.Proofs.Ytoipcfpbkjanhaa
