/-
  The laws' comparison of two lists of numbers.
-/
import Derived.Test.YtoipcfpbkjanhaaInts
namespace Go.Proofs.Ytoipcfpbkjanhaa
open Go.RowKit

set_option maxHeartbeats 400000 in
theorem sameInts (A A' : Option Addr) (n n' c c' B B' : Nat) (xs ys : List Int) (w : World) (hx : Rd w B A xs) (hy : Rd w B' A' ys) (hn : xs.length = n) (hn' : ys.length = n') (lx : n ≤ maxLen) (ly : n' ≤ maxLen) :
    Calls Try.prog 32 #[.slice A n c, .slice A' n' c'] w fun e w' => e = .returned (.bool (xs == ys)) ∧ ∃ k, w' = w.drewN k := by
  unfold maxLen at lx ly
  have Hn := Lib.hid hn
  have Hn' := Lib.hid hn'
  by_cases hl : n = n'
  · subst hl
    clear hn hn'
    go_enter Try.func32, Try.ntmps32
    go_wp2
    go_loopw [5] (fun i wr => ∃ k : Nat, k ≤ n ∧ i = .int .i64 k ∧ (∃ d, wr = w.drewN d) ∧ Hid (xs.take k = ys.take k)) (fun i _ => n - (intOf i).toNat)
    case atStart => exact ⟨0, Nat.zero_le _, rfl, ⟨0, rfl⟩, by simp [Hid]⟩
    case round =>
      obtain ⟨k, hk, rfl, ⟨d, rfl⟩, ht⟩ := hrel
      by_cases hlt : k < n
      · obtain ⟨b, o, rfl, _, hc⟩ := hx (by rw [Hn.out]; omega)
        obtain ⟨b', o', rfl, _, hc'⟩ := hy (by rw [Hn'.out]; omega)
        have h1 := hc k (by rw [Hn.out]; omega)
        have h2 := hc' k (by rw [Hn'.out]; omega)
        clear hc hc' hx hy
        by_cases he : xs[k]?.getD 0 = ys[k]?.getD 0
        · have he' : ((xs[k]?.getD 0) != (ys[k]?.getD 0)) = false := by simp [he]
          have He := Lib.hid he
          clear he
          go_wp2
          go_quiet (fail)
          go_wp2
          go_roundw
          case rel => exact ⟨k + 1, by omega, by go_num, ⟨_, by first | rfl | exact World.drewN_drewN _ _ _⟩, take_eq_next _ _ _ (by rw [Hn.out]; omega) (by rw [Hn'.out]; omega) ht.out He.out⟩
          case measure => simp [intOf]; omega
        · have he' : ((xs[k]?.getD 0) != (ys[k]?.getD 0)) = true := by simp [he]
          have He := Lib.hid he
          clear he
          go_wp2
          go_quiet (fail)
          go_wp2
          go_ret
          refine ⟨?_, ⟨_, by first | rfl | exact World.drewN_drewN _ _ _⟩⟩
          have : (xs == ys) = false := by
            rw [beq_eq_false_iff_ne]
            intro e
            exact He.out (by rw [e])
          rw [this]; rfl
      · go_wp2
        go_ret
        have : (xs == ys) = true := by
          rw [beq_iff_eq]
          have h := ht.out
          have : k = n := by omega
          rw [List.take_of_length_le (by rw [Hn.out]; omega), List.take_of_length_le (by rw [Hn'.out]; omega)] at h
          exact h
        exact ⟨by rw [this]; rfl, _, rfl⟩
  · have hl' : ((n : Int) != (n' : Int)) = true := by rw [bne_iff_ne]; omega
    have Hl := Lib.hid hl
    clear hl hn hn'
    go_enter Try.func32, Try.ntmps32
    go_wp2
    go_ret
    have : (xs == ys) = false := by
      rw [beq_eq_false_iff_ne]
      intro e
      exact Hl.out (by rw [← Hn.out, ← Hn'.out, e])
    exact ⟨by rw [this]; rfl, 0, rfl⟩

end Go.Proofs.Ytoipcfpbkjanhaa
