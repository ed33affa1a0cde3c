/-
  Pictures: which are valid, in the program and in the reference.
-/
import Derived.Test.YtoipcfpbkjanhaaAppend
import Derived.Test.YtoipcfpbkjanhaaSmall
namespace Go.Proofs.Ytoipcfpbkjanhaa
open Go.RowKit

def sideB (n : Int) : Bool := decide (8 ≤ n ∧ n ≤ 32 ∧ n % 8 = 0)
def smpB (n : Int) : Bool := decide (0 ≤ n ∧ n ≤ 255)
def allB (xs : List Int) : Bool := xs.all smpB
def picB (W H : Int) (xs : List Int) : Bool := sideB W && (sideB H && (decide ((xs.length : Int) = W * H) && allB xs))
def picV (W H : Int) (v : Value) : Value := .agg #[.int .i64 W, .int .i64 H, v]

theorem drop_get (xs : List Int) (k : Nat) (h : k < xs.length) : xs.drop k = xs[k]?.getD 0 :: xs.drop (k + 1) := by
  rw [List.drop_eq_getElem_cons h]; simp [h]
theorem allB_drop (xs : List Int) (k : Nat) (h : k < xs.length) : allB (xs.drop k) = (smpB (xs[k]?.getD 0) && allB (xs.drop (k + 1))) := by
  rw [drop_get _ _ h]; rfl
theorem allB_get {xs : List Int} (h : allB xs = true) (k : Nat) (hk : k < xs.length) : 0 ≤ xs[k]?.getD 0 ∧ xs[k]?.getD 0 ≤ 255 := by
  have := List.all_eq_true.1 h (xs[k]?.getD 0) (by rw [List.getElem?_eq_getElem hk]; exact List.getElem_mem hk)
  unfold smpB at this
  exact of_decide_eq_true this
theorem picB_parts {W H : Int} {xs : List Int} (h : picB W H xs = true) : (8 ≤ W ∧ W ≤ 32 ∧ W % 8 = 0) ∧ (8 ≤ H ∧ H ≤ 32 ∧ H % 8 = 0) ∧ (xs.length : Int) = W * H ∧ allB xs = true := by
  unfold picB sideB at h
  simp only [Bool.and_eq_true, decide_eq_true_eq] at h
  exact h
theorem area_le {W H : Int} (h1 : 8 ≤ W) (h2 : W ≤ 32) (h3 : 8 ≤ H) (h4 : H ≤ 32) : 64 ≤ W * H ∧ W * H ≤ 1024 := by
  have a : 8 * 8 ≤ W * H := Int.mul_le_mul h1 h3 (by omega) (by omega)
  have b : W * H ≤ 32 * 32 := Int.mul_le_mul h2 h4 (by omega) (by omega)
  omega

theorem smp_val (n : Int) (t : Bool) (w : World) (h : Hid (smpB n = t)) :
    Calls Try.prog 64 #[.int .i64 n] w fun e w' => e = .returned (.bool t) ∧ w = w' := sampleValid_b n t w h
theorem side_val (n : Int) (t : Bool) (w : World) (h : Hid (sideB n = t)) :
    Calls Try.prog 63 #[.int .i64 n] w fun e w' => e = .returned (.bool t) ∧ w = w' := by
  obtain rfl := h.out
  unfold sideB
  clear h
  by_cases h1 : 8 ≤ n
  · by_cases h2 : n ≤ 32
    · by_cases h3 : n % 8 = 0
      · have h4 : (n % 8 == 0) = true := by simp [h3]
        have h5 : decide (8 ≤ n ∧ n ≤ 32 ∧ n % 8 = 0) = true := decide_eq_true ⟨h1, h2, h3⟩
        rw [h5]
        clear h5
        go_enter Try.func63, Try.ntmps63
        go_wp2
        go_ret; exact ⟨by simp [*], rfl⟩
      · have h4 : (n % 8 == 0) = false := by simp [h3]
        have h5 : decide (8 ≤ n ∧ n ≤ 32 ∧ n % 8 = 0) = false := decide_eq_false (by omega)
        rw [h5]
        clear h5 h3
        go_enter Try.func63, Try.ntmps63
        go_wp2
        go_ret; exact ⟨by simp [*], rfl⟩
    · have h4 : decide (n ≤ 32) = false := by simp; omega
      have h5 : decide (8 ≤ n ∧ n ≤ 32 ∧ n % 8 = 0) = false := decide_eq_false (by omega)
      rw [h5]
      clear h5 h2
      go_enter Try.func63, Try.ntmps63
      go_wp2
      all_goals (go_ret; exact ⟨by simp [*], rfl⟩)
  · have h4 : decide (8 ≤ n) = false := by simp; omega
    have h5 : decide (8 ≤ n ∧ n ≤ 32 ∧ n % 8 = 0) = false := decide_eq_false (by omega)
    rw [h5]
    clear h5 h1
    go_enter Try.func63, Try.ntmps63
    go_wp2
    all_goals (go_ret; exact ⟨by simp [*], rfl⟩)

theorem samplesIn (A : Option Addr) (n c B : Nat) (xs : List Int) (t : Bool) (w : World) (hx : Rd w B A xs) (hn : Hid (xs.length = n)) (hm : n ≤ 9223372036854775807) (ht : Hid (allB xs = t)) :
    Calls Try.prog 65 #[.slice A n c] w fun e w' => e = .returned (.bool t) ∧ w = w' := by
  have HX := Lib.hid hx
  clear hx
  go_enter Try.func65, Try.ntmps65
  go_wp2_with fail
  go_loop [7] (fun i => ∃ k : Nat, k ≤ n ∧ i = .int .i64 k ∧ Hid (allB xs = allB (xs.drop k))) (fun i => n - (intOf i).toNat)
  case atStart => exact ⟨0, Nat.zero_le _, rfl, rfl⟩
  case round =>
    obtain ⟨k, hk, rfl, hr⟩ := hrel
    by_cases hlt : k < n
    · obtain ⟨b, o, rfl, hb, hc⟩ := HX.out (by rw [hn.out]; omega)
      have hc1 := hc k (by rw [hn.out]; exact hlt)
      have hst := allB_drop xs k (by rw [hn.out]; exact hlt)
      generalize xs[k]?.getD 0 = x at hc1 hst
      have HC := Lib.hid hc
      clear hc
      cases hs : smpB x
      · rw [hs] at hst
        have HS := Lib.hid hs
        have HST := Lib.hid hst
        clear hs hst
        go_wp2_with fail
        refine (smp_val _ _ _ HS.out).mono ?_; rintro e w' ⟨rfl, rfl⟩
        go_wp2_with fail
        go_ret
        exact ⟨by rw [← ht.out, hr.out, HST.out]; rfl, rfl⟩
      · rw [hs] at hst
        have HS := Lib.hid hs
        have HST := Lib.hid hst
        clear hs hst
        go_wp2_with fail
        refine (smp_val _ _ _ HS.out).mono ?_; rintro e w' ⟨rfl, rfl⟩
        go_wp2_with fail
        go_round
        case rel => exact ⟨k + 1, by omega, by go_num, by rw [Hid, hr.out, HST.out]; rfl⟩
        case measure => simp [intOf]; omega
    · have : k = n := by omega
      subst this
      go_wp2_with fail
      go_ret
      exact ⟨by rw [← ht.out, hr.out, List.drop_of_length_le (Nat.le_of_eq hn.out)]; rfl, rfl⟩

set_option maxHeartbeats 1000000 in
theorem impl_PictureValid (W H : Int) (A : Option Addr) (n c B : Nat) (xs : List Int) (t : Bool) (w : World) (hx : Rd w B A xs) (hB : B ≤ w.heap.size) (hn : Hid (xs.length = n)) (hm : n ≤ 9223372036854775807) (ht : Hid (picB W H xs = t)) :
    Calls Try.prog 39 #[.agg #[.int .i64 W, .int .i64 H, .slice A n c]] w fun e w' => e = .returned (.bool t) ∧ Q w w' := by
  have q0 : Q w (w.alloc (.cells #[.int .i64 W, .int .i64 H, .slice A n c] 27)) := (by repeat (first | exact Q.refl _ | assumption | refine Q.drewN ?_ _ | refine Q.drew ?_ | refine Q.alloc ?_ _ | refine Q.trans ?_ (by assumption) | refine Q.set ?_ (by first | exact Nat.le_refl _ | omega | (simp; done) | (simp; omega)) _))
  have HX := Lib.hid (hx.alloc hB (.cells #[.int .i64 W, .int .i64 H, .slice A n c] 27))
  have hv : picB W H xs = (sideB W && (sideB H && (decide ((xs.length : Int) = W * H) && allB xs))) := rfl
  rw [hn.out] at hv
  have HT : Hid (t = (sideB W && (sideB H && (decide ((n : Int) = W * H) && allB xs)))) := by rw [Hid, ← ht.out, hv]
  clear hx hv
  cases hW : sideB W
  · have HW := Lib.hid hW
    rw [hW] at HT
    clear hW
    go_enter Try.func39, Try.ntmps39
    go_wp2_with fail
    refine (side_val _ _ _ HW.out).mono ?_; rintro e w' ⟨rfl, rfl⟩
    go_wp2_with fail
    go_ret
    exact ⟨by rw [HT.out]; rfl, q0⟩
  · have hWb := of_decide_eq_true hW
    have HW := Lib.hid hW
    rw [hW] at HT
    clear hW
    cases hH : sideB H
    · have HH := Lib.hid hH
      rw [hH] at HT
      clear hH hWb
      go_enter Try.func39, Try.ntmps39
      go_wp2_with fail
      refine (side_val _ _ _ HW.out).mono ?_; rintro e w' ⟨rfl, rfl⟩
      go_wp2_with fail
      refine (side_val _ _ _ HH.out).mono ?_; rintro e w' ⟨rfl, rfl⟩
      go_wp2_with fail
      go_ret
      exact ⟨by rw [HT.out]; rfl, q0⟩
    · have hHb := of_decide_eq_true hH
      have HH := Lib.hid hH
      rw [hH] at HT
      clear hH
      obtain ⟨a1, a2⟩ := area_le hWb.1 hWb.2.1 hHb.1 hHb.2.1
      clear hWb hHb
      by_cases hl : (n : Int) = W * H
      · rw [decide_eq_true hl] at HT
        have hl' : ((n : Int) != W * H) = false := by rw [bne_eq_false_iff_eq]; exact hl
        have HT2 : Hid (allB xs = t) := by rw [HT.out]; rfl
        clear hl
        go_enter Try.func39, Try.ntmps39
        go_wp2_with fail
        refine (side_val _ _ _ HW.out).mono ?_; rintro e w' ⟨rfl, rfl⟩
        go_wp2_with fail
        refine (side_val _ _ _ HH.out).mono ?_; rintro e w' ⟨rfl, rfl⟩
        go_wp2_with fail
        refine (samplesIn _ _ _ _ _ _ _ HX.out hn hm HT2).mono ?_; rintro e w' ⟨rfl, rfl⟩
        go_wp2_with fail
        go_ret
        exact ⟨rfl, q0⟩
      · rw [decide_eq_false hl] at HT
        have hl' : ((n : Int) != W * H) = true := by rw [bne_iff_ne]; exact hl
        clear hl
        go_enter Try.func39, Try.ntmps39
        go_wp2_with fail
        refine (side_val _ _ _ HW.out).mono ?_; rintro e w' ⟨rfl, rfl⟩
        go_wp2_with fail
        refine (side_val _ _ _ HH.out).mono ?_; rintro e w' ⟨rfl, rfl⟩
        go_wp2_with fail
        go_ret
        exact ⟨by rw [HT.out]; rfl, q0⟩

theorem l1In_val (n lo hi : Int) (t : Bool) (w : World) (h : Hid (decide (lo ≤ n ∧ n ≤ hi) = t)) :
    Calls Try.prog 50 #[.int .i64 n, .int .i64 lo, .int .i64 hi] w fun e w' => e = .returned (.bool t) ∧ w = w' := l1In_b n lo hi t w h

set_option maxHeartbeats 2000000 in
theorem spec_PictureValid (W H : Int) (A : Option Addr) (n c B : Nat) (xs : List Int) (t : Bool) (w : World) (hx : Rd w B A xs) (hB : B ≤ w.heap.size) (hn : Hid (xs.length = n)) (hm : n ≤ 9223372036854775807) (ht : Hid (picB W H xs = t)) :
    Calls Try.prog 33 #[.agg #[.int .i64 W, .int .i64 H, .slice A n c]] w fun e w' => e = .returned (.bool t) ∧ Q w w' := by
  have q0 : Q w (w.alloc (.cells #[.int .i64 W, .int .i64 H, .slice A n c] 27)) := (by repeat (first | exact Q.refl _ | assumption | refine Q.drewN ?_ _ | refine Q.drew ?_ | refine Q.alloc ?_ _ | refine Q.trans ?_ (by assumption) | refine Q.set ?_ (by first | exact Nat.le_refl _ | omega | (simp; done) | (simp; omega)) _))
  have HX := Lib.hid (hx.alloc hB (.cells #[.int .i64 W, .int .i64 H, .slice A n c] 27))
  have hv : picB W H xs = (sideB W && (sideB H && (decide ((xs.length : Int) = W * H) && allB xs))) := rfl
  rw [hn.out] at hv
  have HT : Hid (t = (sideB W && (sideB H && (decide ((n : Int) = W * H) && allB xs)))) := by rw [Hid, ← ht.out, hv]
  clear hx hv ht
  by_cases hW : 8 ≤ W ∧ W ≤ 32
  · have HW := Lib.hid (decide_eq_true hW)
    by_cases hH : 8 ≤ H ∧ H ≤ 32
    · have HH := Lib.hid (decide_eq_true hH)
      obtain ⟨a1, a2⟩ := area_le hW.1 hW.2 hH.1 hH.2
      obtain ⟨w1, w2⟩ := hW
      obtain ⟨h1, h2⟩ := hH
      by_cases hWm : W % 8 = 0
      · have hWm' : (W % 8 != 0) = false := by rw [bne_eq_false_iff_eq]; exact hWm
        have hsW : sideB W = true := decide_eq_true ⟨w1, w2, hWm⟩
        rw [hsW] at HT
        clear hWm hsW
        by_cases hHm : H % 8 = 0
        · have hHm' : (H % 8 != 0) = false := by rw [bne_eq_false_iff_eq]; exact hHm
          have hsH : sideB H = true := decide_eq_true ⟨h1, h2, hHm⟩
          rw [hsH] at HT
          clear hHm hsH
          by_cases hl : (n : Int) = W * H
          · rw [decide_eq_true hl] at HT
            have hl' : ((n : Int) != W * H) = false := by rw [bne_eq_false_iff_eq]; exact hl
            have HT2 : Hid (t = allB xs) := by rw [Hid, HT.out]; rfl
            clear hl HT
            go_enter Try.func33, Try.ntmps33
            go_wp2_with fail; (refine (l1In_val _ _ _ _ _ HW.out).mono ?_; rintro e w' ⟨rfl, rfl⟩)
            go_wp2_with fail; (refine (l1In_val _ _ _ _ _ HH.out).mono ?_; rintro e w' ⟨rfl, rfl⟩)
            go_wp2_with fail
            go_loop [3] (fun i => ∃ k : Nat, k ≤ n ∧ i = .int .i64 k ∧ Hid (allB xs = allB (xs.drop k))) (fun i => n - (intOf i).toNat)
            case atStart => exact ⟨0, Nat.zero_le _, rfl, rfl⟩
            case round =>
              obtain ⟨k, hk, rfl, hr⟩ := hrel
              by_cases hlt : k < n
              · obtain ⟨b, o, rfl, hb, hc⟩ := HX.out (by rw [hn.out]; omega)
                have hc1 := hc k (by rw [hn.out]; exact hlt)
                have hst := allB_drop xs k (by rw [hn.out]; exact hlt)
                generalize xs[k]?.getD 0 = x at hc1 hst
                have HC := Lib.hid hc
                clear hc
                cases hs : smpB x
                · rw [hs] at hst
                  have HS : Hid (decide (0 ≤ x ∧ x ≤ 255) = false) := hs
                  have HST := Lib.hid hst
                  clear hs hst
                  go_wp2_with fail; (refine (l1In_val _ _ _ _ _ HS.out).mono ?_; rintro e w' ⟨rfl, rfl⟩)
                  go_wp2_with fail
                  go_ret
                  exact ⟨by rw [HT2.out, hr.out, HST.out]; rfl, q0⟩
                · rw [hs] at hst
                  have HS : Hid (decide (0 ≤ x ∧ x ≤ 255) = true) := hs
                  have HST := Lib.hid hst
                  clear hs hst
                  go_wp2_with fail; (refine (l1In_val _ _ _ _ _ HS.out).mono ?_; rintro e w' ⟨rfl, rfl⟩)
                  go_wp2_with fail
                  go_round
                  case rel => exact ⟨k + 1, by omega, by go_num, by rw [Hid, hr.out, HST.out]; rfl⟩
                  case measure => simp [intOf]; omega
              · have : k = n := by omega
                subst this
                go_wp2_with fail
                go_ret
                exact ⟨by rw [HT2.out, hr.out, List.drop_of_length_le (Nat.le_of_eq hn.out)]; rfl, q0⟩
          · rw [decide_eq_false hl] at HT
            have hl' : ((n : Int) != W * H) = true := by rw [bne_iff_ne]; exact hl
            clear hl
            go_enter Try.func33, Try.ntmps33
            go_wp2_with fail; (refine (l1In_val _ _ _ _ _ HW.out).mono ?_; rintro e w' ⟨rfl, rfl⟩)
            go_wp2_with fail; (refine (l1In_val _ _ _ _ _ HH.out).mono ?_; rintro e w' ⟨rfl, rfl⟩)
            go_wp2_with fail
            go_ret
            exact ⟨by rw [HT.out]; rfl, q0⟩
        · have hHm' : (H % 8 != 0) = true := by rw [bne_iff_ne]; exact hHm
          have hsH : sideB H = false := decide_eq_false (fun h => hHm h.2.2)
          rw [hsH] at HT
          clear hHm hsH
          go_enter Try.func33, Try.ntmps33
          go_wp2_with fail; (refine (l1In_val _ _ _ _ _ HW.out).mono ?_; rintro e w' ⟨rfl, rfl⟩)
          go_wp2_with fail; (refine (l1In_val _ _ _ _ _ HH.out).mono ?_; rintro e w' ⟨rfl, rfl⟩)
          go_wp2_with fail
          go_ret
          exact ⟨by rw [HT.out]; rfl, q0⟩
      · have hWm' : (W % 8 != 0) = true := by rw [bne_iff_ne]; exact hWm
        have hsW : sideB W = false := decide_eq_false (fun h => hWm h.2.2)
        rw [hsW] at HT
        clear hWm hsW
        go_enter Try.func33, Try.ntmps33
        go_wp2_with fail; (refine (l1In_val _ _ _ _ _ HW.out).mono ?_; rintro e w' ⟨rfl, rfl⟩)
        go_wp2_with fail; (refine (l1In_val _ _ _ _ _ HH.out).mono ?_; rintro e w' ⟨rfl, rfl⟩)
        go_wp2_with fail
        go_ret
        exact ⟨by rw [HT.out]; rfl, q0⟩
    · have HH := Lib.hid (decide_eq_false hH)
      have hsH : sideB H = false := decide_eq_false (fun h => hH ⟨h.1, h.2.1⟩)
      rw [hsH, Bool.false_and, Bool.and_false] at HT
      clear hsH hH hW
      go_enter Try.func33, Try.ntmps33
      go_wp2_with fail; (refine (l1In_val _ _ _ _ _ HW.out).mono ?_; rintro e w' ⟨rfl, rfl⟩)
      go_wp2_with fail; (refine (l1In_val _ _ _ _ _ HH.out).mono ?_; rintro e w' ⟨rfl, rfl⟩)
      go_wp2_with fail
      go_ret
      exact ⟨by rw [HT.out]; rfl, q0⟩
  · have HW := Lib.hid (decide_eq_false hW)
    have hsW : sideB W = false := decide_eq_false (fun h => hW ⟨h.1, h.2.1⟩)
    rw [hsW] at HT
    clear hsW hW
    go_enter Try.func33, Try.ntmps33
    go_wp2_with fail; (refine (l1In_val _ _ _ _ _ HW.out).mono ?_; rintro e w' ⟨rfl, rfl⟩)
    go_wp2_with fail
    go_ret
    exact ⟨by rw [HT.out]; rfl, q0⟩
end Go.Proofs.Ytoipcfpbkjanhaa
