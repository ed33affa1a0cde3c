/-
  WaveTime for all columns, rows and workers: what both texts return.
-/
import Derived.Test.YtnmegieibcmhcaaTime3
namespace Go.Proofs.Ytnmegieibcmhcaa
open Go.RowKit

/-- what WaveTime returns -/
def waveTime (c r W : Int) : Int := if sizeOk c r ∧ 1 ≤ W ∧ W ≤ 16 then timeT c r W.toNat else -1
theorem waveTime_nat {c r W : Nat} (h : sizeOk c r) (h1 : 1 ≤ W) (h2 : W ≤ 16) : waveTime c r W = timeT c r W := by
  unfold waveTime
  rw [if_pos ⟨h, by omega, by omega⟩, Int.toNat_natCast]

set_option maxRecDepth 100000 in
set_option maxHeartbeats 1000000 in
theorem impl_WaveTime (c r W : Int) (w : World) :
    Calls Try.prog 46 #[.int .i64 c, .int .i64 r, .int .i64 W] w fun e w' => e = .returned (.int .i64 (waveTime c r W)) ∧ Q w w' := by
  by_cases hs : sizeOk c r
  · by_cases hW1 : 1 ≤ W
    · by_cases hW2 : W ≤ 16
      · have h := hs
        obtain ⟨h1, h2, h3, h4⟩ := h
        obtain ⟨c, rfl⟩ := Int.eq_ofNat_of_zero_le (show 0 ≤ c by omega)
        obtain ⟨r, rfl⟩ := Int.eq_ofNat_of_zero_le (show 0 ≤ r by omega)
        obtain ⟨W, rfl⟩ := Int.eq_ofNat_of_zero_le (show 0 ≤ W by omega)
        rw [waveTime_nat hs (by omega) (by omega)]
        exact impl_WaveTime_ok c r W (c * r) _ w hs (by omega) (by omega) rfl (time_facts hs (by omega) (by omega)).1
      · rw [show waveTime c r W = -1 from if_neg (fun h => hW2 h.2.2)]
        have HD := Lib.hid (decide_eq_true hs)
        have b0 := Blk.new w 61 #[.int .i64 c, .int .i64 r]
        have q0 : Q w (w.alloc (.cells #[.int .i64 c, .int .i64 r] 61)) := (by repeat (first | exact Q.refl _ | assumption | refine Q.drewN ?_ _ | refine Q.drew ?_ | refine Q.alloc ?_ _ | refine Q.trans ?_ (by assumption) | refine Q.set ?_ (by first | exact Nat.le_refl _ | omega | (simp; done) | (simp; omega)) _))
        have hw2 : 16 < W := by omega
        clear hW2 hs
        go_enter Try.func46, Try.ntmps46
        go_wp2_with fail
        refine (wave_valid _ _ _ _ HD.out).mono ?_; rintro e w1 ⟨rfl, q1⟩
        go_wp2_with fail
        go_ret
        exact ⟨rfl, q0.trans q1⟩
    · rw [show waveTime c r W = -1 from if_neg (fun h => hW1 h.2.1)]
      have HD := Lib.hid (decide_eq_true hs)
      have b0 := Blk.new w 61 #[.int .i64 c, .int .i64 r]
      have q0 : Q w (w.alloc (.cells #[.int .i64 c, .int .i64 r] 61)) := (by repeat (first | exact Q.refl _ | assumption | refine Q.drewN ?_ _ | refine Q.drew ?_ | refine Q.alloc ?_ _ | refine Q.trans ?_ (by assumption) | refine Q.set ?_ (by first | exact Nat.le_refl _ | omega | (simp; done) | (simp; omega)) _))
      have hw2 : W < 1 := by omega
      clear hW1 hs
      go_enter Try.func46, Try.ntmps46
      go_wp2_with fail
      refine (wave_valid _ _ _ _ HD.out).mono ?_; rintro e w1 ⟨rfl, q1⟩
      go_wp2_with fail
      go_ret
      exact ⟨rfl, q0.trans q1⟩
  · rw [show waveTime c r W = -1 from if_neg (fun h => hs h.1)]
    have HD := Lib.hid (decide_eq_false hs)
    have b0 := Blk.new w 61 #[.int .i64 c, .int .i64 r]
    have q0 : Q w (w.alloc (.cells #[.int .i64 c, .int .i64 r] 61)) := (by repeat (first | exact Q.refl _ | assumption | refine Q.drewN ?_ _ | refine Q.drew ?_ | refine Q.alloc ?_ _ | refine Q.trans ?_ (by assumption) | refine Q.set ?_ (by first | exact Nat.le_refl _ | omega | (simp; done) | (simp; omega)) _))
    clear hs
    go_enter Try.func46, Try.ntmps46
    go_wp2_with fail
    refine (wave_valid _ _ _ _ HD.out).mono ?_; rintro e w1 ⟨rfl, q1⟩
    go_wp2_with fail
    go_ret
    exact ⟨rfl, q0.trans q1⟩

set_option maxRecDepth 100000 in
set_option maxHeartbeats 1000000 in
theorem spec_WaveTime (c r W : Int) (w : World) :
    Calls Try.prog 45 #[.int .i64 c, .int .i64 r, .int .i64 W] w fun e w' => e = .returned (.int .i64 (waveTime c r W)) ∧ Q w w' := by
  by_cases hs : sizeOk c r
  · by_cases hW : 1 ≤ W ∧ W ≤ 16
    · have h := hs
      obtain ⟨hW1, hW2⟩ := hW
      obtain ⟨h1, h2, h3, h4⟩ := h
      obtain ⟨c, rfl⟩ := Int.eq_ofNat_of_zero_le (show 0 ≤ c by omega)
      obtain ⟨r, rfl⟩ := Int.eq_ofNat_of_zero_le (show 0 ≤ r by omega)
      obtain ⟨W, rfl⟩ := Int.eq_ofNat_of_zero_le (show 0 ≤ W by omega)
      rw [waveTime_nat hs (by omega) (by omega)]
      refine spec_WaveTime_ok c r W (c * r) _ w hs (by omega) (by omega) rfl ?_
      have ht := (time_facts hs (W := W) (by omega) (by omega)).2.1
      rw [Hid, ← ht, Int.natCast_mul]
    · rw [show waveTime c r W = -1 from if_neg (fun h => hW h.2)]
      have HS := Lib.hid hs
      have hw2 : W < 1 ∨ 16 < W := by omega
      have HW := Lib.hid hw2
      clear hW hs hw2
      go_enter Try.func45, Try.ntmps45
      go_wp2_with fail
      refine (l23Ok_tt _ _ _ HS.out).mono ?_; rintro e w' ⟨rfl, rfl⟩
      go_wp2_with fail
      refine (l1In_ff _ _ _ _ HW.out).mono ?_; rintro e w' ⟨rfl, rfl⟩
      go_wp2_with fail
      go_ret
      exact ⟨rfl, Q.refl _⟩
  · rw [show waveTime c r W = -1 from if_neg (fun h => hs h.1)]
    have HS := Lib.hid hs
    clear hs
    go_enter Try.func45, Try.ntmps45
    go_wp2_with fail
    refine (l23Ok_ff _ _ _ HS.out).mono ?_; rintro e w' ⟨rfl, rfl⟩
    go_wp2_with fail
    go_ret
    exact ⟨rfl, Q.refl _⟩

theorem step_range_t (c r n : Int) : -1 ≤ waveStep c r n ∧ waveStep c r n ≤ 1000 := by
  unfold waveStep stepVal
  split
  · rename_i h
    have := size_le h.1
    obtain ⟨⟨h1, h2, h3, h4⟩, h5, h6⟩ := h
    have a := Int.ediv_le_self c h5
    have b := Int.emod_lt_of_pos n (show 0 < c by omega)
    have d := Int.emod_nonneg n (show c ≠ 0 by omega)
    have e : 0 ≤ n / c := Int.ediv_nonneg h5 (by omega)
    split <;> omega
  · omega
theorem waveTime_range (c r W : Int) : -1 ≤ waveTime c r W ∧ waveTime c r W ≤ 16 := by
  unfold waveTime
  split
  · rename_i h
    obtain ⟨hs, hW⟩ := h
    have h := hs
    obtain ⟨h1, h2, h3, h4⟩ := h
    obtain ⟨c, rfl⟩ := Int.eq_ofNat_of_zero_le (show 0 ≤ c by omega)
    obtain ⟨r, rfl⟩ := Int.eq_ofNat_of_zero_le (show 0 ≤ r by omega)
    obtain ⟨W, rfl⟩ := Int.eq_ofNat_of_zero_le (show 0 ≤ W by omega)
    have ht := (time_facts hs (W := W) (by omega) (by omega)).2.2.1
    have hl := size_le hs
    have hl2 : ((c * r : Nat) : Int) ≤ 16 := by rw [Int.natCast_mul]; exact hl.2
    rw [Int.toNat_natCast]
    omega
  · omega
theorem waveTime_laws {c r W N : Int} (h : 0 ≤ waveTime c r W) (hN : c * r = N) : sizeOk c r ∧ 1 ≤ W ∧ W ≤ 16 ∧ 1 ≤ N ∧ N ≤ 16 ∧ waveTime c r 1 = N ∧ waveTime c r 16 = waveStep c r (N - 1) + 1 ∧ waveTime c r W ≤ N ∧ (W = 16 ∨ waveTime c r (W + 1) ≤ waveTime c r W) := by
  by_cases h0 : sizeOk c r ∧ 1 ≤ W ∧ W ≤ 16
  · obtain ⟨hs, hW1, hW2⟩ := h0
    have hh := hs
    obtain ⟨h1, h2, h3, h4⟩ := hh
    have hl := (size_le hs).2
    obtain ⟨c, rfl⟩ := Int.eq_ofNat_of_zero_le (show 0 ≤ c by omega)
    obtain ⟨r, rfl⟩ := Int.eq_ofNat_of_zero_le (show 0 ≤ r by omega)
    obtain ⟨W, rfl⟩ := Int.eq_ofNat_of_zero_le (show 0 ≤ W by omega)
    obtain ⟨_, _, ht, ht1, ht16, htn⟩ := time_facts hs (W := W) (by omega) (by omega)
    have hN1 : (0 : Int) < N := by rw [← hN]; exact Int.mul_pos (by omega) (by omega)
    have hNN : ((c * r : Nat) : Int) = N := by rw [Int.natCast_mul]; exact hN
    rw [hN] at hl ht16
    refine ⟨hs, hW1, hW2, by omega, hl, ?_, ?_, ?_, ?_⟩
    · have h := waveTime_nat hs (show 1 ≤ 1 by omega) (by omega)
      rw [ht1, hNN] at h
      exact h
    · have h := waveTime_nat hs (show 1 ≤ 16 by omega) (by omega)
      rw [ht16] at h
      exact h
    · rw [waveTime_nat hs (by omega) (by omega)]; omega
    · rcases htn with e | e
      · exact .inl (by omega)
      · by_cases h16 : W = 16
        · exact .inl (by omega)
        · refine .inr ?_
          have h := waveTime_nat hs (show 1 ≤ W + 1 by omega) (by omega)
          rw [waveTime_nat hs (by omega) (by omega)]
          have h' : waveTime c r ((W : Int) + 1) = ((timeT c r (W + 1) : Nat) : Int) := h
          rw [h']; omega
  · rw [show waveTime c r W = -1 from if_neg h0] at h
    omega
end Go.Proofs.Ytnmegieibcmhcaa
