/-
  HalveChroma of the reference: a number out of range; all arguments.
-/
import Derived.Test.YtnmegieibcmhcaaHalve3
namespace Go.Proofs.Ytnmegieibcmhcaa
open Go.RowKit

set_option maxHeartbeats 1000000 in
set_option maxRecDepth 100000 in
theorem spec_Halve_out (A : Option Addr) (n c B w' W H : Nat) (xs : List Int) (w : World) (hx : Rd w B A xs) (hB : B ≤ w.heap.size) (hn : xs.length = n) (hl : n = 2 * H * (2 * W)) (hw : w' = 2 * W) (h1 : 1 ≤ W) (h2 : W ≤ 16) (h3 : 1 ≤ H) (h4 : H ≤ 16) (hch : Hid (¬ chromaIn xs)) :
    Calls Try.prog 39 #[.slice A n c, .int .i64 w'] w fun e w' => ∃ v, e = .returned v ∧ Own w' w.heap.size v 0 [] ∧ Q w w' := by
  have Hn := Lib.hid hn
  have hdiv : (n : Int) / (w' : Int) = ((2 * H : Nat) : Int) := by rw [hl, hw]; exact hal_div W H h1
  have hmod : (n : Int) % (2 * (w' : Int)) = 0 := by rw [hl, hw]; exact hal_mod2 W H
  have hn1 : n ≤ 1024 := by
    rw [hl]; have := Nat.mul_le_mul (show 2 * H ≤ 32 by omega) (show 2 * W ≤ 32 by omega); omega
  obtain ⟨hh, hH⟩ : ∃ hh : Nat, hh = 2 * H := ⟨_, rfl⟩
  rw [← hH] at hdiv
  have w1 : 2 ≤ w' := by omega
  have w2 : w' ≤ 32 := by omega
  have w3 : (w' : Int) % 2 = 0 := by omega
  have g1 : 2 ≤ hh := by omega
  have g2 : hh ≤ 32 := by omega
  clear hn hl hw hH
  go_enter Try.func39, Try.ntmps39
  go_wp2_with (go_at_call 54; refine (l1In_tt _ _ _ _ (by omega) (by omega)).mono ?_; rintro e w' ⟨rfl, rfl⟩)
  go_loopw [6] (fun i wr => ∃ k : Nat, k ≤ n ∧ i = .int .i64 k ∧ wr = w.alloc (.cells #[] 3) ∧ Hid (∀ j : Nat, j < k → -255 ≤ xs[j]?.getD 0 ∧ xs[j]?.getD 0 ≤ 255)) (fun i _ => n - (intOf i).toNat)
  case atStart => exact ⟨0, Nat.zero_le _, rfl, rfl, fun j hj => absurd hj (Nat.not_lt_zero _)⟩
  case round =>
    obtain ⟨k, hk, rfl, rfl, hall⟩ := hrel
    by_cases hlt : k < n
    · obtain ⟨b, o, rfl, hb, hc⟩ := hx (by rw [Hn.out]; omega)
      have h5 := hc k (by rw [Hn.out]; exact hlt)
      have h5' : (w.alloc (.cells #[] 3)).cell? ⟨b, o + k, none⟩ = _ := (((Q.refl w).alloc _).cell b _ (by omega)).trans h5
      obtain ⟨a, ha⟩ : ∃ a, xs[k]?.getD 0 = a := ⟨_, rfl⟩
      rw [ha] at h5'
      have HA := Lib.hid ha
      clear hc ha h5
      by_cases h6 : -255 ≤ a ∧ a ≤ 255
      · obtain ⟨h6, h7⟩ := h6
        go_wp2_with (go_at_call 54; refine (l1In_tt _ _ _ _ (by omega) (by omega)).mono ?_; rintro e w' ⟨rfl, rfl⟩)
        go_roundw
        case rel =>
          refine ⟨k + 1, by omega, by go_num, by first | rfl | trivial, fun j hj => ?_⟩
          rcases Nat.lt_or_ge j k with hjk | hjk
          · exact hall.out j hjk
          · have : j = k := by omega
            subst this; rw [HA.out]; exact ⟨h6, h7⟩
        case measure => simp [intOf]; omega
      · have h6' : a < -255 ∨ 255 < a := by omega
        clear h6
        have ho := Own.lit0 (w.alloc (.cells #[] 3)) w.heap.size (by simp)
        rw [World.size_alloc] at ho
        go_wp2_with (go_at_call 54; refine (l1In_ff _ _ _ _ (by omega)).mono ?_; rintro e w' ⟨rfl, rfl⟩)
        go_ret
        exact ⟨_, rfl, ho, (by repeat (first | exact Q.refl _ | assumption | refine Q.drewN ?_ _ | refine Q.drew ?_ | refine Q.alloc ?_ _ | refine Q.trans ?_ (by assumption) | refine Q.set ?_ (by first | exact Nat.le_refl _ | omega | (simp; done) | (simp; omega)) _))⟩
    · exact absurd (fun i hi => hall.out i (by rw [Hn.out] at hi; omega)) hch.out

theorem spec_Halve (A : Option Addr) (n c B : Nat) (v : Int) (xs : List Int) (w : World) (hx : Rd w B A xs) (hB : B ≤ w.heap.size) (hn : xs.length = n) (hm : n ≤ 9223372036854775807) :
    Calls Try.prog 39 #[.slice A n c, .int .i64 v] w fun e w' => ∃ u, e = .returned u ∧ Own w' w.heap.size u (hal xs v).length (hal xs v) ∧ Q w w' := by
  by_cases h : halOk n v
  · obtain ⟨W, H, rfl, hl, h1, h2, h3, h4⟩ := h
    by_cases hc : chromaIn xs
    · rw [hal_ok xs W H (hn.trans hl) hc h1 h2 h3 h4, length_tab]
      exact spec_Halve_ok A n c B (2 * W) W H xs w hx hB hn hl rfl h1 h2 h3 h4 hc
    · rw [show hal xs ((2 * W : Nat) : Int) = [] by unfold hal; rw [if_neg (fun h => hc h.2)]]
      exact spec_Halve_out A n c B (2 * W) W H xs w hx hB hn hl rfl h1 h2 h3 h4 hc
  · rw [show hal xs v = [] by unfold hal; rw [if_neg (by rw [hn]; exact fun hh => h hh.1)]]
    exact spec_Halve_no A n c v w hm h
end Go.Proofs.Ytnmegieibcmhcaa
