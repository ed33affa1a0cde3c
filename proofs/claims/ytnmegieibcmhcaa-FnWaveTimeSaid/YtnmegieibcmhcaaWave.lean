/-
  What the functions on wavefronts compute: WaveStep, WaveNeeds.
-/
import Derived.Test.YtnmegieibcmhcaaProg
import Derived.Test.YtnmegieibcmhcaaLib
import Derived.Test.YtnmegieibcmhcaaSmall
namespace Go.Proofs.Ytnmegieibcmhcaa
open Go.RowKit

def sizeOk (c r : Int) : Prop := 1 ≤ c ∧ c ≤ 4 ∧ 1 ≤ r ∧ r ≤ 4
instance (c r : Int) : Decidable (sizeOk c r) := by unfold sizeOk; infer_instance
def stepVal (c n : Int) : Int := if c = 1 then n else n / c * 2 + n % c
def waveStep (c r n : Int) : Int := if sizeOk c r ∧ 0 ≤ n ∧ n < c * r then stepVal c n else -1
theorem size_le {c r : Int} (h : sizeOk c r) : 1 ≤ c * r ∧ c * r ≤ 16 := by
  obtain ⟨h1, h2, h3, h4⟩ := h
  have : c = 1 ∨ c = 2 ∨ c = 3 ∨ c = 4 := by omega
  rcases this with rfl | rfl | rfl | rfl <;> omega

theorem l23Ok_tt (c r : Int) (w : World) (h : sizeOk c r) :
    Calls Try.prog 58 #[.int .i64 c, .int .i64 r] w fun e w' => e = .returned (.bool true) ∧ w = w' := by
  obtain ⟨h1, h2, h3, h4⟩ := h
  go_enter Try.func58, Try.ntmps58
  go_wp2_with (go_at_call 54; refine (l1In_tt _ _ _ _ (by omega) (by omega)).mono ?_; rintro e w' ⟨rfl, rfl⟩)
  go_ret; exact ⟨rfl, rfl⟩
theorem l23Ok_ff (c r : Int) (w : World) (h : ¬ sizeOk c r) :
    Calls Try.prog 58 #[.int .i64 c, .int .i64 r] w fun e w' => e = .returned (.bool false) ∧ w = w' := by
  by_cases hc : 1 ≤ c ∧ c ≤ 4
  · have hr : r < 1 ∨ 4 < r := by unfold sizeOk at h; omega
    clear h
    go_enter Try.func58, Try.ntmps58
    go_wp2_with fail
    refine (l1In_tt _ _ _ _ (by omega) (by omega)).mono ?_; rintro e w' ⟨rfl, rfl⟩
    go_wp2_with fail
    refine (l1In_ff _ _ _ _ (by omega)).mono ?_; rintro e w' ⟨rfl, rfl⟩
    go_wp2_with fail
    go_ret; exact ⟨rfl, rfl⟩
  · have hr : c < 1 ∨ 4 < c := by omega
    clear h hc
    go_enter Try.func58, Try.ntmps58
    go_wp2_with (go_at_call 54; refine (l1In_ff _ _ _ _ (by omega)).mono ?_; rintro e w' ⟨rfl, rfl⟩)
    go_ret; exact ⟨rfl, rfl⟩

theorem spec_WaveStep (c r n : Int) (w : World) :
    Calls Try.prog 33 #[.int .i64 c, .int .i64 r, .int .i64 n] w fun e w' => e = .returned (.int .i64 (waveStep c r n)) ∧ ∃ k, w' = w.drewN k := by
  by_cases hs : sizeOk c r
  · have hcr := size_le hs
    by_cases hn : 0 ≤ n ∧ n < c * r
    · rw [show waveStep c r n = stepVal c n from if_pos ⟨hs, hn⟩]; unfold stepVal
      by_cases hc : c = 1
      · rw [if_pos hc]
        subst hc
        have HS := Lib.hid hs
        clear hs
        go_enter Try.func33, Try.ntmps33
        go_wp2_with (first | (go_at_call 58; refine (l23Ok_tt _ _ _ HS.out).mono ?_; rintro e w' ⟨rfl, rfl⟩) | (go_at_call 54; refine (l1In_tt _ _ _ _ (by omega) (by omega)).mono ?_; rintro e w' ⟨rfl, rfl⟩))
        go_ret
        exact ⟨rfl, 0, rfl⟩
      · have hc' : (c == 1) = false := by simpa using hc
        rw [if_neg hc]
        have hs' := hs
        obtain ⟨h1, h2, h3, h4⟩ := hs'
        have hnc : n / c ≤ n := Int.ediv_le_self _ hn.1
        have hnc0 : 0 ≤ n / c := Int.ediv_nonneg hn.1 (by omega)
        have hm : n % c < c := Int.emod_lt_of_pos _ (by omega)
        have hm0 : 0 ≤ n % c := Int.emod_nonneg _ (by omega)
        have HS := Lib.hid hs
        clear hs hc
        go_enter Try.func33, Try.ntmps33
        go_wp2_with (first | (go_at_call 58; refine (l23Ok_tt _ _ _ HS.out).mono ?_; rintro e w' ⟨rfl, rfl⟩) | (go_at_call 54; refine (l1In_tt _ _ _ _ (by omega) (by omega)).mono ?_; rintro e w' ⟨rfl, rfl⟩))
        go_quiet (fail)
        go_wp2
        go_ret
        exact ⟨rfl, _, rfl⟩
    · rw [show waveStep c r n = -1 from if_neg (fun h => hn h.2)]
      have hn' : n < 0 ∨ c * r - 1 < n := by omega
      have HS := Lib.hid hs
      clear hs hn
      go_enter Try.func33, Try.ntmps33
      go_wp2_with (first | (go_at_call 58; refine (l23Ok_tt _ _ _ HS.out).mono ?_; rintro e w' ⟨rfl, rfl⟩) | (go_at_call 54; refine (l1In_ff _ _ _ _ (by omega)).mono ?_; rintro e w' ⟨rfl, rfl⟩))
      go_ret
      exact ⟨rfl, 0, rfl⟩
  · rw [show waveStep c r n = -1 from if_neg (fun h => hs h.1)]
    have HS := Lib.hid hs
    clear hs
    go_enter Try.func33, Try.ntmps33
    go_wp2_with (first | (go_at_call 58; refine (l23Ok_ff _ _ _ HS.out).mono ?_; rintro e w' ⟨rfl, rfl⟩))
    go_ret
    exact ⟨rfl, 0, rfl⟩

theorem wave_valid (c r : Int) (b : Bool) (w : World) (h : decide (sizeOk c r) = b) :
    Calls Try.prog 59 #[.agg #[.int .i64 c, .int .i64 r]] w fun e w' => e = .returned (.bool b) ∧ Q w w' := by
  subst h
  by_cases h : sizeOk c r
  · rw [decide_eq_true h]
    obtain ⟨h1, h2, h3, h4⟩ := h
    go_enter Try.func59, Try.ntmps59
    go_wp2
    go_ret; exact ⟨rfl, (by repeat (first | exact Q.refl _ | assumption | refine Q.drewN ?_ _ | refine Q.drew ?_ | refine Q.alloc ?_ _ | refine Q.trans ?_ (by assumption) | refine Q.set ?_ (by first | exact Nat.le_refl _ | omega | (simp; done) | (simp; omega)) _))⟩
  · rw [decide_eq_false h]
    by_cases h1 : 1 ≤ c
    · by_cases h2 : c ≤ 4
      · by_cases h3 : 1 ≤ r
        · have h4 : 4 < r := by unfold sizeOk at h; omega
          have h4' : decide (r ≤ 4) = false := by simp; omega
          clear h
          go_enter Try.func59, Try.ntmps59
          go_wp2
          all_goals (go_ret; exact ⟨rfl, (by repeat (first | exact Q.refl _ | assumption | refine Q.drewN ?_ _ | refine Q.drew ?_ | refine Q.alloc ?_ _ | refine Q.trans ?_ (by assumption) | refine Q.set ?_ (by first | exact Nat.le_refl _ | omega | (simp; done) | (simp; omega)) _))⟩)
        · have h3' : decide (1 ≤ r) = false := by simp; omega
          clear h
          go_enter Try.func59, Try.ntmps59
          go_wp2
          all_goals (go_ret; exact ⟨rfl, (by repeat (first | exact Q.refl _ | assumption | refine Q.drewN ?_ _ | refine Q.drew ?_ | refine Q.alloc ?_ _ | refine Q.trans ?_ (by assumption) | refine Q.set ?_ (by first | exact Nat.le_refl _ | omega | (simp; done) | (simp; omega)) _))⟩)
      · have h3' : decide (c ≤ 4) = false := by simp; omega
        clear h
        go_enter Try.func59, Try.ntmps59
        go_wp2
        all_goals (go_ret; exact ⟨rfl, (by repeat (first | exact Q.refl _ | assumption | refine Q.drewN ?_ _ | refine Q.drew ?_ | refine Q.alloc ?_ _ | refine Q.trans ?_ (by assumption) | refine Q.set ?_ (by first | exact Nat.le_refl _ | omega | (simp; done) | (simp; omega)) _))⟩)
    · have h3' : decide (1 ≤ c) = false := by simp; omega
      clear h
      go_enter Try.func59, Try.ntmps59
      go_wp2
      all_goals (go_ret; exact ⟨rfl, (by repeat (first | exact Q.refl _ | assumption | refine Q.drewN ?_ _ | refine Q.drew ?_ | refine Q.alloc ?_ _ | refine Q.trans ?_ (by assumption) | refine Q.set ?_ (by first | exact Nat.le_refl _ | omega | (simp; done) | (simp; omega)) _))⟩)

theorem wave_step (c r n : Int) (w : World) (hc : 1 ≤ c) (hc4 : c ≤ 4) (hn : 0 ≤ n) (hn2 : n ≤ 16) :
    Calls Try.prog 62 #[.agg #[.int .i64 c, .int .i64 r], .int .i64 n] w fun e w' => e = .returned (.int .i64 (stepVal c n)) ∧ Q w w' := by
  unfold stepVal
  have hnc : n / c ≤ n := Int.ediv_le_self _ hn
  have hnc0 : 0 ≤ n / c := Int.ediv_nonneg hn (by omega)
  have hm : n % c < c := Int.emod_lt_of_pos _ (by omega)
  have hm0 : 0 ≤ n % c := Int.emod_nonneg _ (by omega)
  by_cases h1 : c = 1
  · subst h1
    go_enter Try.func62, Try.ntmps62
    go_wp2
    go_quiet (fail)
    go_wp2
    go_ret
    exact ⟨by simp, (by repeat (first | exact Q.refl _ | assumption | refine Q.drewN ?_ _ | refine Q.drew ?_ | refine Q.alloc ?_ _ | refine Q.trans ?_ (by assumption) | refine Q.set ?_ (by first | exact Nat.le_refl _ | omega | (simp; done) | (simp; omega)) _))⟩
  · have h1' : (c == 1) = false := by simpa using h1
    rw [if_neg h1, Int.mul_comm]
    clear h1
    go_enter Try.func62, Try.ntmps62
    go_wp2
    go_quiet (fail)
    go_wp2
    go_ret
    exact ⟨rfl, (by repeat (first | exact Q.refl _ | assumption | refine Q.drewN ?_ _ | refine Q.drew ?_ | refine Q.alloc ?_ _ | refine Q.trans ?_ (by assumption) | refine Q.set ?_ (by first | exact Nat.le_refl _ | omega | (simp; done) | (simp; omega)) _))⟩

theorem impl_WaveStep (c r n : Int) (w : World) :
    Calls Try.prog 32 #[.int .i64 c, .int .i64 r, .int .i64 n] w fun e w' => e = .returned (.int .i64 (waveStep c r n)) ∧ Q w w' := by
  by_cases hs : sizeOk c r
  · have hcr := size_le hs
    have hs' := hs
    obtain ⟨h1, h2, h3, h4⟩ := hs'
    have hd := decide_eq_true hs
    have HS := Lib.hid hs
    have HD := Lib.hid hd
    clear hs hd
    by_cases hn0 : 0 ≤ n
    · by_cases hn : n < c * r
      · rw [show waveStep c r n = stepVal c n from if_pos ⟨HS.out, hn0, hn⟩]
        have hn' : decide (c * r ≤ n) = false := by simp; omega
        go_enter Try.func32, Try.ntmps32
        go_wp2_with (first | (go_at_call 59; refine (wave_valid _ _ _ _ HD.out).mono ?_; rintro e w' ⟨rfl, hq⟩; have hqc := hq.cell) | (go_at_call 62; refine (wave_step _ _ _ _ h1 h2 hn0 (by omega)).mono ?_; rintro e w' ⟨rfl, hq⟩))
        go_ret
        exact ⟨rfl, (by repeat (first | exact Q.refl _ | assumption | refine Q.drewN ?_ _ | refine Q.drew ?_ | refine Q.alloc ?_ _ | refine Q.trans ?_ (by assumption) | refine Q.set ?_ (by first | exact Nat.le_refl _ | omega | (simp; done) | (simp; omega)) _))⟩
      · rw [show waveStep c r n = -1 from if_neg (fun h => hn h.2.2)]
        have hn' : decide (c * r ≤ n) = true := by simp; omega
        go_enter Try.func32, Try.ntmps32
        go_wp2_with (first | (go_at_call 59; refine (wave_valid _ _ _ _ HD.out).mono ?_; rintro e w' ⟨rfl, hq⟩; have hqc := hq.cell))
        go_ret
        exact ⟨rfl, (by repeat (first | exact Q.refl _ | assumption | refine Q.drewN ?_ _ | refine Q.drew ?_ | refine Q.alloc ?_ _ | refine Q.trans ?_ (by assumption) | refine Q.set ?_ (by first | exact Nat.le_refl _ | omega | (simp; done) | (simp; omega)) _))⟩
    · rw [show waveStep c r n = -1 from if_neg (fun h => hn0 h.2.1)]
      have hn' : n < 0 := by omega
      clear hn0
      go_enter Try.func32, Try.ntmps32
      go_wp2_with (first | (go_at_call 59; refine (wave_valid _ _ _ _ HD.out).mono ?_; rintro e w' ⟨rfl, hq⟩; have hqc := hq.cell))
      go_ret
      exact ⟨rfl, (by repeat (first | exact Q.refl _ | assumption | refine Q.drewN ?_ _ | refine Q.drew ?_ | refine Q.alloc ?_ _ | refine Q.trans ?_ (by assumption) | refine Q.set ?_ (by first | exact Nat.le_refl _ | omega | (simp; done) | (simp; omega)) _))⟩
  · rw [show waveStep c r n = -1 from if_neg (fun h => hs h.1)]
    have hd := decide_eq_false hs
    have HD := Lib.hid hd
    clear hs hd
    go_enter Try.func32, Try.ntmps32
    go_wp2_with (first | (go_at_call 59; refine (wave_valid _ _ _ _ HD.out).mono ?_; rintro e w' ⟨rfl, hq⟩; have hqc := hq.cell))
    go_ret
    exact ⟨rfl, (by repeat (first | exact Q.refl _ | assumption | refine Q.drewN ?_ _ | refine Q.drew ?_ | refine Q.alloc ?_ _ | refine Q.trans ?_ (by assumption) | refine Q.set ?_ (by first | exact Nat.le_refl _ | omega | (simp; done) | (simp; omega)) _))⟩
end Go.Proofs.Ytnmegieibcmhcaa
