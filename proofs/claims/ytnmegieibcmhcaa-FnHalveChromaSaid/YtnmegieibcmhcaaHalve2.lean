/-
  HalveChroma of the program: what it does with all arguments.
-/
import Derived.Test.YtnmegieibcmhcaaHalve
namespace Go.Proofs.Ytnmegieibcmhcaa
open Go.RowKit

theorem impl_Halve_no (A : Option Addr) (n c : Nat) (v : Int) (w : World) (hn : n ≤ 9223372036854775807) (h : ¬ halOk n v) :
    Calls Try.prog 38 #[.slice A n c, .int .i64 v] w fun e w' => e = .returned (.slice none 0 0) ∧ w = w' := by
  rcases hal_no n v h with h1 | h1 | ⟨h1, h2, h3 | ⟨h3, h4⟩⟩
  · clear h
    go_enter Try.func38, Try.ntmps38
    go_wp2
    go_ret; exact ⟨rfl, rfl⟩
  · have h1' : decide (32 < v) = true := by simpa using h1
    clear h
    go_enter Try.func38, Try.ntmps38
    go_wp2
    go_ret; exact ⟨rfl, rfl⟩
  · have h3' : (v % 2 != 0) = true := by rw [bne_iff_ne]; exact h3
    clear h h3
    go_enter Try.func38, Try.ntmps38
    go_wp2
    go_ret; exact ⟨rfl, rfl⟩
  · have hq1 : 0 ≤ (n : Int) / v := Int.ediv_nonneg (by omega) (by omega)
    have hq2 : (n : Int) / v ≤ n := Int.ediv_le_self _ (by omega)
    rcases h4 with h4 | ⟨h4, h5 | h5 | ⟨h5, h6, h7⟩⟩
    · have h4' : ((n : Int) % v != 0) = true := by rw [bne_iff_ne]; exact h4
      clear h h4
      go_enter Try.func38, Try.ntmps38
      go_wp2
      go_ret; exact ⟨rfl, rfl⟩
    · clear h
      go_enter Try.func38, Try.ntmps38
      go_wp2
      go_ret; exact ⟨rfl, rfl⟩
    · have h5' : decide (32 < (n : Int) / v) = true := by simpa using h5
      clear h
      go_enter Try.func38, Try.ntmps38
      go_wp2
      go_ret; exact ⟨rfl, rfl⟩
    · have h7' : ((n : Int) / v % 2 != 0) = true := by rw [bne_iff_ne]; exact h7
      clear h h7
      go_enter Try.func38, Try.ntmps38
      go_wp2
      go_ret; exact ⟨rfl, rfl⟩

set_option maxHeartbeats 1000000 in
theorem impl_Halve_out (A : Option Addr) (n c B w' W H : Nat) (xs : List Int) (w : World) (hx : Rd w B A xs) (hn : xs.length = n) (hl : n = 2 * H * (2 * W)) (hw : w' = 2 * W) (h1 : 1 ≤ W) (h2 : W ≤ 16) (h3 : 1 ≤ H) (h4 : H ≤ 16) (hch : Hid (¬ chromaIn xs)) :
    Calls Try.prog 38 #[.slice A n c, .int .i64 w'] w fun e w' => e = .returned (.slice none 0 0) ∧ w = w' := by
  have Hn := Lib.hid hn
  have hdiv : (n : Int) / (w' : Int) = ((2 * H : Nat) : Int) := by rw [hl, hw]; exact hal_div W H h1
  have hmod : (n : Int) % (w' : Int) = 0 := by rw [hl, hw]; exact hal_mod W H
  have hn1 : n ≤ 1024 := by
    rw [hl]; have := Nat.mul_le_mul (show 2 * H ≤ 32 by omega) (show 2 * W ≤ 32 by omega); omega
  obtain ⟨hh, hH⟩ : ∃ hh : Nat, hh = 2 * H := ⟨_, rfl⟩
  rw [← hH] at hdiv
  have w1 : 2 ≤ w' := by omega
  have w2 : w' ≤ 32 := by omega
  have w3 : (w' : Int) % 2 = 0 := by omega
  have g1 : 2 ≤ hh := by omega
  have g2 : hh ≤ 32 := by omega
  have g3 : (hh : Int) % 2 = 0 := by omega
  clear hn hl hw hH
  go_enter Try.func38, Try.ntmps38
  go_wp2_with fail
  go_loop [47] (fun i => ∃ k : Nat, k ≤ n ∧ i = .int .i64 k ∧ Hid (∀ j : Nat, j < k → -255 ≤ xs[j]?.getD 0 ∧ xs[j]?.getD 0 ≤ 255)) (fun i => n - (intOf i).toNat)
  case atStart => exact ⟨0, Nat.zero_le _, rfl, fun j hj => absurd hj (Nat.not_lt_zero _)⟩
  case round =>
    obtain ⟨k, hk, rfl, hall⟩ := hrel
    by_cases hlt : k < n
    · obtain ⟨b, o, rfl, hb, hc⟩ := hx (by rw [Hn.out]; omega)
      have h5 := hc k (by rw [Hn.out]; exact hlt)
      obtain ⟨a, ha⟩ : ∃ a, xs[k]?.getD 0 = a := ⟨_, rfl⟩
      rw [ha] at h5
      have HA := Lib.hid ha
      clear hc ha
      by_cases h6 : -255 ≤ a
      · by_cases h7 : a ≤ 255
        · go_wp2_with fail
          go_round
          case rel =>
            refine ⟨k + 1, by omega, by go_num, fun j hj => ?_⟩
            rcases Nat.lt_or_ge j k with hjk | hjk
            · exact hall.out j hjk
            · have : j = k := by omega
              subst this; rw [HA.out]; exact ⟨h6, h7⟩
          case measure => simp [intOf]; omega
        · have h7' : decide (255 < a) = true := by simp; omega
          clear h7
          go_wp2_with fail
          go_ret; exact ⟨rfl, rfl⟩
      · have h6' : a < -255 := by omega
        clear h6
        go_wp2_with fail
        go_ret; exact ⟨rfl, rfl⟩
    · exact absurd (fun i hi => hall.out i (by rw [Hn.out] at hi; omega)) hch.out

theorem impl_Halve (A : Option Addr) (n c B : Nat) (v : Int) (xs : List Int) (w : World) (hx : Rd w B A xs) (hB : B ≤ w.heap.size) (hn : xs.length = n) (hm : n ≤ 9223372036854775807) :
    Calls Try.prog 38 #[.slice A n c, .int .i64 v] w fun e w' => ∃ u, e = .returned u ∧ Own w' w.heap.size u (hal xs v).length (hal xs v) ∧ Q w w' := by
  by_cases h : halOk n v
  · obtain ⟨W, H, rfl, hl, h1, h2, h3, h4⟩ := h
    by_cases hc : chromaIn xs
    · rw [hal_ok xs W H (hn.trans hl) hc h1 h2 h3 h4, length_tab]
      exact impl_Halve_ok A n c B (2 * W) W H xs w hx hB hn hl rfl h1 h2 h3 h4 hc
    · rw [show hal xs ((2 * W : Nat) : Int) = [] by unfold hal; rw [if_neg (fun h => hc h.2)]]
      exact (impl_Halve_out A n c B (2 * W) W H xs w hx hn hl rfl h1 h2 h3 h4 hc).mono fun e w' ⟨he, hw⟩ => ⟨_, he, hw ▸ Own.nil _ _, hw ▸ Q.refl _⟩
  · rw [show hal xs v = [] by unfold hal; rw [if_neg (by rw [hn]; exact fun hh => h hh.1)]]
    exact (impl_Halve_no A n c v w hm h).mono fun e w' ⟨he, hw⟩ => ⟨_, he, hw ▸ Own.nil _ _, hw ▸ Q.refl _⟩
end Go.Proofs.Ytnmegieibcmhcaa
