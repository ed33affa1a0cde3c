/-
  DoubleChroma, of the program and of the reference: both give the table in which every number occurs four times.
-/
import Derived.Test.YtnmegieibcmhcaaAppend
import Derived.Test.YtnmegieibcmhcaaSmall
import Derived.Test.YtnmegieibcmhcaaTab
namespace Go.Proofs.Ytnmegieibcmhcaa
open Go.RowKit

/-- The table has w columns and h rows, both in 1..16. -/
def dblOk (n : Nat) (w : Int) : Prop := ∃ W H : Nat, w = W ∧ n = H * W ∧ 1 ≤ W ∧ W ≤ 16 ∧ 1 ≤ H ∧ H ≤ 16
def dblAt (xs : List Int) (W j : Nat) : Int := xs[j / (2 * W) / 2 * W + j % (2 * W) / 2]?.getD 0
open Classical in
noncomputable def dbl (xs : List Int) (w : Int) : List Int := if dblOk xs.length w then tab (dblAt xs w.toNat) (4 * xs.length) else []

theorem dblAt_row (xs : List Int) (W y x : Nat) (h : x < 2 * W) : dblAt xs W (y * (2 * W) + x) = xs[y / 2 * W + x / 2]?.getD 0 := by
  unfold dblAt; rw [row_div _ _ _ h, row_mod _ _ _ h]

theorem dbl_ok (xs : List Int) (W H : Nat) (hl : xs.length = H * W) (h1 : 1 ≤ W) (h2 : W ≤ 16) (h3 : 1 ≤ H) (h4 : H ≤ 16) : dbl xs W = tab (dblAt xs W) (2 * H * (2 * W)) := by
  unfold dbl
  rw [if_pos ⟨W, H, rfl, hl, h1, h2, h3, h4⟩, hl, Int.toNat_natCast]
  rw [show 4 * (H * W) = 2 * H * (2 * W) by rw [Nat.mul_mul_mul_comm]]

/-- What the code tests, where the table is none. -/
theorem dbl_no (n : Nat) (w : Int) (h : ¬ dblOk n w) : w < 1 ∨ 16 < w ∨ (1 ≤ w ∧ w ≤ 16 ∧ (n : Int) % w ≠ 0) ∨ (1 ≤ w ∧ w ≤ 16 ∧ (n : Int) % w = 0 ∧ ((n : Int) / w < 1 ∨ 16 < (n : Int) / w)) := by
  by_cases h1 : 1 ≤ w
  · by_cases h2 : w ≤ 16
    · by_cases h3 : (n : Int) % w = 0
      · refine .inr (.inr (.inr ⟨h1, h2, h3, ?_⟩))
        apply Classical.byContradiction
        intro hc
        apply h
        refine ⟨w.toNat, ((n : Int) / w).toNat, by omega, ?_, by omega, by omega, by omega, by omega⟩
        have h4 := Int.mul_ediv_add_emod (n : Int) w
        rw [h3, Int.add_zero] at h4
        have h5 : (((n : Int) / w).toNat : Int) = (n : Int) / w := Int.toNat_of_nonneg (by omega)
        have h6 : (w.toNat : Int) = w := Int.toNat_of_nonneg (by omega)
        apply Int.ofNat.inj
        show (n : Int) = ((((n : Int) / w).toNat * w.toNat : Nat) : Int)
        rw [Int.natCast_mul, h5, h6, Int.mul_comm]; exact h4.symm
      · exact .inr (.inr (.inl ⟨h1, h2, h3⟩))
    · omega
  · omega

theorem div_of_table (W H : Nat) (h : 1 ≤ W) : ((H * W : Nat) : Int) / (W : Int) = H := by
  rw [Int.natCast_mul, Int.mul_ediv_cancel _ (by omega)]
theorem mod_of_table (W H : Nat) : ((H * W : Nat) : Int) % (W : Int) = 0 := by
  rw [Int.natCast_mul, Int.mul_emod_left]

set_option maxHeartbeats 1000000 in
theorem impl_Double_ok (A : Option Addr) (n c B W H : Nat) (xs : List Int) (w : World) (hx : Rd w B A xs) (hB : B ≤ w.heap.size) (hn : xs.length = n) (hl : n = H * W) (h1 : 1 ≤ W) (h2 : W ≤ 16) (h3 : 1 ≤ H) (h4 : H ≤ 16) :
    Calls Try.prog 26 #[.slice A n c, .int .i64 W] w fun e w' => ∃ v, e = .returned v ∧ Own w' w.heap.size v (2 * H * (2 * W)) (tab (dblAt xs W) (2 * H * (2 * W))) ∧ Q w w' := by
  have Hn := Lib.hid (hn.trans hl)
  have hdiv : (n : Int) / (W : Int) = H := by rw [hl]; exact div_of_table W H h1
  have hmod : (n : Int) % (W : Int) = 0 := by rw [hl]; exact mod_of_table W H
  have hn1 : n ≤ 256 := by rw [hl]; exact Nat.le_trans (Nat.mul_le_mul_right _ h4) (by omega)
  have Hl := Lib.hid hl
  clear hn hl
  go_enter Try.func26, Try.ntmps26
  go_wp2_with (at_make; refine wpList_make_int0 rfl _ _ rfl w (4 * n) _ rfl rfl (by omega) (by omega) (Q.refl w) ?_; intro w1 ho hq hs)
  go_loopw [6, 38] (fun v i wr => ∃ y : Nat, y ≤ 2 * H ∧ i = .int .i64 y ∧ Own wr w.heap.size v (y * (2 * W)) (tab (dblAt xs W) (y * (2 * W))) ∧ Q w wr) (fun _ i _ => 2 * H - (intOf i).toNat)
  case atStart => exact ⟨0, Nat.zero_le _, rfl, by rw [Nat.zero_mul]; exact ho, hq⟩
  case round =>
    obtain ⟨y, hy, rfl, ho1, hq1⟩ := hrel
    clear ho hq hs
    by_cases hlt : y < 2 * H
    · have hrow : y / 2 * W + W ≤ n := by rw [Hl.out]; exact row_le _ _ _ (by omega)
      have hi1 : 0 ≤ (y : Int) / 2 * (W : Int) := Int.mul_nonneg (by omega) (by omega)
      have hi2 : (y : Int) / 2 * (W : Int) + W ≤ n := by exact_mod_cast hrow
      obtain ⟨wo, rfl⟩ : ∃ wo : World, wo = wr := ⟨_, rfl⟩
      have hlt' : decide ((y : Int) < 2 * (H : Int)) = true := by simp; omega
      go_wp2
      go_loopw [6, 43] (fun v i wr => ∃ x : Nat, x ≤ 2 * W ∧ i = .int .i64 x ∧ Own wr w.heap.size v (y * (2 * W) + x) (tab (dblAt xs W) (y * (2 * W) + x)) ∧ Q w wr) (fun _ i _ => 2 * W - (intOf i).toNat)
      case atStart => exact ⟨0, Nat.zero_le _, rfl, ho1, hq1⟩
      case round =>
        obtain ⟨x, hx1, rfl, ho2, hq2⟩ := hrel
        clear ho1 hq1
        by_cases hlx : x < 2 * W
        · obtain ⟨b, o, rfl, hb, hc⟩ := hx (by rw [Hn.out, ← Hl.out]; omega)
          have h5 : wr.cell? ⟨b, o + (y / 2 * W + x / 2), none⟩ = _ := (hq2.cell b _ (by omega)).trans (hc (y / 2 * W + x / 2) (by rw [Hn.out, ← Hl.out]; omega))
          clear hc hx
          have hs2 := hq2.size
          have hb2 : y * (2 * W) + x ≤ 10000 := by
            have := Nat.mul_le_mul (show y ≤ 32 by omega) (show 2 * W ≤ 32 by omega)
            omega
          go_wp2_with ((at_builtin; refine wpList_append_int rfl _ _ rfl w w.heap.size _ _ _ rfl (ho2.alloc _) ⟨_, 0, none⟩ _ _ rfl (by first | exact Nat.le_refl _ | omega | (simp; done) | (simp; omega)) (by first | exact Nat.le_refl _ | omega | (simp; done) | (simp; omega)) (by first | exact Nat.le_refl _ | omega | (simp; done) | (simp; omega)) (hq2.alloc _) (World.cell?_alloc_new _ _ _ _) ?_; intro v' w' ho3 hq3 hs3 _; skip))
          go_roundw
          case rel => exact ⟨x + 1, by omega, by go_num, by have h := ho3; rw [← dblAt_row xs W y x hlx, ← tab_succ] at h; exact h, hq3⟩
          case measure => simp [intOf]; omega
        · go_wp2_with fail
          go_roundw
          case rel => exact ⟨y + 1, by omega, by go_num, by have e : x = 2 * W := by omega
                                                            subst e; rw [Nat.succ_mul]; exact ho2, hq2⟩
          case measure => simp [intOf]; omega
    · go_wp2_with fail
      go_ret
      have e : y = 2 * H := by omega
      subst e
      exact ⟨_, rfl, ho1, hq1⟩

theorem impl_Double_no (A : Option Addr) (n c : Nat) (v : Int) (w : World) (hn : n ≤ 9223372036854775807) (h : ¬ dblOk n v) :
    Calls Try.prog 26 #[.slice A n c, .int .i64 v] w fun e w' => e = .returned (.slice none 0 0) ∧ w = w' := by
  rcases dbl_no n v h with h1 | h1 | ⟨h1, h2, h3⟩ | ⟨h1, h2, h3, h4⟩
  · clear h
    go_enter Try.func26, Try.ntmps26
    go_wp2
    go_ret; exact ⟨rfl, rfl⟩
  · have h1' : decide (16 < v) = true := by simpa using h1
    clear h
    go_enter Try.func26, Try.ntmps26
    go_wp2
    go_ret; exact ⟨rfl, rfl⟩
  · have h3' : ((n : Int) % v != 0) = true := by rw [bne_iff_ne]; exact h3
    clear h h3
    go_enter Try.func26, Try.ntmps26
    go_wp2
    go_ret; exact ⟨rfl, rfl⟩
  · have hq1 : 0 ≤ (n : Int) / v := Int.ediv_nonneg (by omega) (by omega)
    have hq2 : (n : Int) / v ≤ n := Int.ediv_le_self _ (by omega)
    rcases h4 with h4 | h4
    · clear h
      go_enter Try.func26, Try.ntmps26
      go_wp2
      go_ret; exact ⟨rfl, rfl⟩
    · have h4' : decide (16 < (n : Int) / v) = true := by simpa using h4
      clear h
      go_enter Try.func26, Try.ntmps26
      go_wp2
      go_ret; exact ⟨rfl, rfl⟩

theorem spec_Double_no (A : Option Addr) (n c : Nat) (v : Int) (w : World) (hn : n ≤ 9223372036854775807) (h : ¬ dblOk n v) :
    Calls Try.prog 28 #[.slice A n c, .int .i64 v] w fun e w' => ∃ v, e = .returned v ∧ Own w' w.heap.size v 0 [] ∧ Q w w' := by
  have hlit := Lib.hid (Own.lit0 w w.heap.size (Nat.le_refl _))
  rcases dbl_no n v h with h1 | h1 | ⟨h1, h2, h3⟩ | ⟨h1, h2, h3, h4⟩
  · clear h
    go_enter Try.func28, Try.ntmps28
    go_wp2_with (go_at_call 54; refine (l1In_ff _ _ _ _ (by omega)).mono ?_; rintro e w' ⟨rfl, rfl⟩)
    go_ret; exact ⟨_, rfl, hlit.out, (by repeat (first | exact Q.refl _ | assumption | refine Q.drewN ?_ _ | refine Q.drew ?_ | refine Q.alloc ?_ _ | refine Q.trans ?_ (by assumption) | refine Q.set ?_ (by first | exact Nat.le_refl _ | omega | (simp; done) | (simp; omega)) _))⟩
  · clear h
    go_enter Try.func28, Try.ntmps28
    go_wp2_with (go_at_call 54; refine (l1In_ff _ _ _ _ (by omega)).mono ?_; rintro e w' ⟨rfl, rfl⟩)
    go_ret; exact ⟨_, rfl, hlit.out, (by repeat (first | exact Q.refl _ | assumption | refine Q.drewN ?_ _ | refine Q.drew ?_ | refine Q.alloc ?_ _ | refine Q.trans ?_ (by assumption) | refine Q.set ?_ (by first | exact Nat.le_refl _ | omega | (simp; done) | (simp; omega)) _))⟩
  · have h3' : ((n : Int) % v != 0) = true := by rw [bne_iff_ne]; exact h3
    clear h h3
    go_enter Try.func28, Try.ntmps28
    go_wp2_with (go_at_call 54; refine (l1In_tt _ _ _ _ (by omega) (by omega)).mono ?_; rintro e w' ⟨rfl, rfl⟩)
    go_ret; exact ⟨_, rfl, hlit.out, (by repeat (first | exact Q.refl _ | assumption | refine Q.drewN ?_ _ | refine Q.drew ?_ | refine Q.alloc ?_ _ | refine Q.trans ?_ (by assumption) | refine Q.set ?_ (by first | exact Nat.le_refl _ | omega | (simp; done) | (simp; omega)) _))⟩
  · have hq1 : 0 ≤ (n : Int) / v := Int.ediv_nonneg (by omega) (by omega)
    have hq2 : (n : Int) / v ≤ n := Int.ediv_le_self _ (by omega)
    clear h
    go_enter Try.func28, Try.ntmps28
    go_wp2_with fail
    refine (l1In_tt _ _ _ _ (by omega) (by omega)).mono ?_; rintro e w' ⟨rfl, rfl⟩
    go_wp2_with fail
    refine (l1In_ff _ _ _ _ (by omega)).mono ?_; rintro e w' ⟨rfl, rfl⟩
    go_wp2_with fail
    go_ret; exact ⟨_, rfl, hlit.out, (by repeat (first | exact Q.refl _ | assumption | refine Q.drewN ?_ _ | refine Q.drew ?_ | refine Q.alloc ?_ _ | refine Q.trans ?_ (by assumption) | refine Q.set ?_ (by first | exact Nat.le_refl _ | omega | (simp; done) | (simp; omega)) _))⟩

set_option maxHeartbeats 1000000 in
theorem spec_Double_ok (A : Option Addr) (n c B W H : Nat) (xs : List Int) (w : World) (hx : Rd w B A xs) (hB : B ≤ w.heap.size) (hn : xs.length = n) (hl : n = H * W) (h1 : 1 ≤ W) (h2 : W ≤ 16) (h3 : 1 ≤ H) (h4 : H ≤ 16) :
    Calls Try.prog 28 #[.slice A n c, .int .i64 W] w fun e w' => ∃ v, e = .returned v ∧ Own w' w.heap.size v (2 * H * (2 * W)) (tab (dblAt xs W) (2 * H * (2 * W))) ∧ Q w w' := by
  have Hn := Lib.hid (hn.trans hl)
  have hdiv : (n : Int) / (W : Int) = H := by rw [hl]; exact div_of_table W H h1
  have hmod : (n : Int) % (W : Int) = 0 := by rw [hl]; exact mod_of_table W H
  have hn1 : n ≤ 256 := by rw [hl]; exact Nat.le_trans (Nat.mul_le_mul_right _ h4) (by omega)
  have Hl := Lib.hid hl
  clear hn hl
  have ho := Own.lit0 w w.heap.size (Nat.le_refl _)
  have hq := (Q.refl w).alloc (.cells #[] 3)
  go_enter Try.func28, Try.ntmps28
  go_wp2_with (go_at_call 54; refine (l1In_tt _ _ _ _ (by omega) (by omega)).mono ?_; rintro e w' ⟨rfl, rfl⟩)
  go_loopw [5, 6] (fun v i wr => ∃ y : Nat, y ≤ 2 * H ∧ i = .int .i64 y ∧ Own wr w.heap.size v (y * (2 * W)) (tab (dblAt xs W) (y * (2 * W))) ∧ Q w wr) (fun _ i _ => 2 * H - (intOf i).toNat)
  case atStart => exact ⟨0, Nat.zero_le _, rfl, by rw [Nat.zero_mul]; exact ho, hq⟩
  case round =>
    obtain ⟨y, hy, rfl, ho1, hq1⟩ := hrel
    clear ho hq
    by_cases hlt : y < 2 * H
    · have hrow : y / 2 * W + W ≤ n := by rw [Hl.out]; exact row_le _ _ _ (by omega)
      have hi1 : 0 ≤ (y : Int) / 2 * (W : Int) := Int.mul_nonneg (by omega) (by omega)
      have hi2 : (y : Int) / 2 * (W : Int) + W ≤ n := by exact_mod_cast hrow
      obtain ⟨wo, rfl⟩ : ∃ wo : World, wo = wr := ⟨_, rfl⟩
      have hlt' : decide ((y : Int) < 2 * (H : Int)) = true := by simp; omega
      go_wp2
      go_loopw [5, 7] (fun v i wr => ∃ x : Nat, x ≤ 2 * W ∧ i = .int .i64 x ∧ Own wr w.heap.size v (y * (2 * W) + x) (tab (dblAt xs W) (y * (2 * W) + x)) ∧ Q w wr) (fun _ i _ => 2 * W - (intOf i).toNat)
      case atStart => exact ⟨0, Nat.zero_le _, rfl, ho1, hq1⟩
      case round =>
        obtain ⟨x, hx1, rfl, ho2, hq2⟩ := hrel
        clear ho1 hq1
        by_cases hlx : x < 2 * W
        · obtain ⟨b, o, rfl, hb, hc⟩ := hx (by rw [Hn.out, ← Hl.out]; omega)
          have h5 : wr.cell? ⟨b, o + (y / 2 * W + x / 2), none⟩ = _ := (hq2.cell b _ (by omega)).trans (hc (y / 2 * W + x / 2) (by rw [Hn.out, ← Hl.out]; omega))
          clear hc hx
          have hs2 := hq2.size
          have hb2 : y * (2 * W) + x ≤ 10000 := by
            have := Nat.mul_le_mul (show y ≤ 32 by omega) (show 2 * W ≤ 32 by omega)
            omega
          go_wp2_with ((at_builtin; refine wpList_append_int rfl _ _ rfl w w.heap.size _ _ _ rfl (ho2.alloc _) ⟨_, 0, none⟩ _ _ rfl (by first | exact Nat.le_refl _ | omega | (simp; done) | (simp; omega)) (by first | exact Nat.le_refl _ | omega | (simp; done) | (simp; omega)) (by first | exact Nat.le_refl _ | omega | (simp; done) | (simp; omega)) (hq2.alloc _) (World.cell?_alloc_new _ _ _ _) ?_; intro v' w' ho3 hq3 hs3 _; skip))
          go_roundw
          case rel => exact ⟨x + 1, by omega, by go_num, by have h := ho3; rw [← dblAt_row xs W y x hlx, ← tab_succ] at h; exact h, hq3⟩
          case measure => simp [intOf]; omega
        · go_wp2_with fail
          go_roundw
          case rel => exact ⟨y + 1, by omega, by go_num, by have e : x = 2 * W := by omega
                                                            subst e; rw [Nat.succ_mul]; exact ho2, hq2⟩
          case measure => simp [intOf]; omega
    · go_wp2_with fail
      go_ret
      have e : y = 2 * H := by omega
      subst e
      exact ⟨_, rfl, ho1, hq1⟩

/-- Both in one word. -/
theorem dbl_len (xs : List Int) (v : Int) : (dbl xs v).length ≤ 1024 := by
  unfold dbl
  split
  · rename_i h
    obtain ⟨W, H, _, hl, h1, h2, h3, h4⟩ := h
    rw [length_tab, hl]
    have := Nat.mul_le_mul h4 h2
    omega
  · simp
theorem impl_Double (A : Option Addr) (n c B : Nat) (v : Int) (xs : List Int) (w : World) (hx : Rd w B A xs) (hB : B ≤ w.heap.size) (hn : xs.length = n) (hm : n ≤ 9223372036854775807) :
    Calls Try.prog 26 #[.slice A n c, .int .i64 v] w fun e w' => ∃ u, e = .returned u ∧ Own w' w.heap.size u (dbl xs v).length (dbl xs v) ∧ Q w w' := by
  by_cases h : dblOk n v
  · obtain ⟨W, H, rfl, hl, h1, h2, h3, h4⟩ := h
    rw [dbl_ok xs W H (hn.trans hl) h1 h2 h3 h4, length_tab]
    exact impl_Double_ok A n c B W H xs w hx hB hn hl h1 h2 h3 h4
  · rw [show dbl xs v = [] by unfold dbl; rw [if_neg (by rw [hn]; exact h)]]
    exact (impl_Double_no A n c v w hm h).mono fun e w' ⟨he, hw⟩ => ⟨_, he, hw ▸ Own.nil _ _, hw ▸ Q.refl _⟩
theorem spec_Double (A : Option Addr) (n c B : Nat) (v : Int) (xs : List Int) (w : World) (hx : Rd w B A xs) (hB : B ≤ w.heap.size) (hn : xs.length = n) (hm : n ≤ 9223372036854775807) :
    Calls Try.prog 28 #[.slice A n c, .int .i64 v] w fun e w' => ∃ u, e = .returned u ∧ Own w' w.heap.size u (dbl xs v).length (dbl xs v) ∧ Q w w' := by
  by_cases h : dblOk n v
  · obtain ⟨W, H, rfl, hl, h1, h2, h3, h4⟩ := h
    rw [dbl_ok xs W H (hn.trans hl) h1 h2 h3 h4, length_tab]
    exact spec_Double_ok A n c B W H xs w hx hB hn hl h1 h2 h3 h4
  · rw [show dbl xs v = [] by unfold dbl; rw [if_neg (by rw [hn]; exact h)]]
    exact spec_Double_no A n c v w hm h
end Go.Proofs.Ytnmegieibcmhcaa
