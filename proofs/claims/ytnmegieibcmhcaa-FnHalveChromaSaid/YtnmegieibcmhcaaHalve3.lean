/-
  HalveChroma of the reference.
-/
import Derived.Test.YtnmegieibcmhcaaHalve2
namespace Go.Proofs.Ytnmegieibcmhcaa
open Go.RowKit

theorem spec_Halve_no (A : Option Addr) (n c : Nat) (v : Int) (w : World) (hn : n ≤ 9223372036854775807) (h : ¬ halOk n v) :
    Calls Try.prog 39 #[.slice A n c, .int .i64 v] w fun e w' => ∃ v, e = .returned v ∧ Own w' w.heap.size v 0 [] ∧ Q w w' := by
  have hlit := Lib.hid (Own.lit0 w w.heap.size (Nat.le_refl _))
  rcases hal_no2 n v h with h1 | h1 | ⟨h1, h2, h3 | ⟨h3, h4 | ⟨h4, h5⟩⟩⟩
  · clear h
    go_enter Try.func39, Try.ntmps39
    go_wp2_with (go_at_call 54; refine (l1In_ff _ _ _ _ (by omega)).mono ?_; rintro e w' ⟨rfl, rfl⟩)
    go_ret; exact ⟨_, rfl, hlit.out, (by repeat (first | exact Q.refl _ | assumption | refine Q.drewN ?_ _ | refine Q.drew ?_ | refine Q.alloc ?_ _ | refine Q.trans ?_ (by assumption) | refine Q.set ?_ (by first | exact Nat.le_refl _ | omega | (simp; done) | (simp; omega)) _))⟩
  · clear h
    go_enter Try.func39, Try.ntmps39
    go_wp2_with (go_at_call 54; refine (l1In_ff _ _ _ _ (by omega)).mono ?_; rintro e w' ⟨rfl, rfl⟩)
    go_ret; exact ⟨_, rfl, hlit.out, (by repeat (first | exact Q.refl _ | assumption | refine Q.drewN ?_ _ | refine Q.drew ?_ | refine Q.alloc ?_ _ | refine Q.trans ?_ (by assumption) | refine Q.set ?_ (by first | exact Nat.le_refl _ | omega | (simp; done) | (simp; omega)) _))⟩
  · have h3' : (v % 2 != 0) = true := by rw [bne_iff_ne]; exact h3
    clear h h3
    go_enter Try.func39, Try.ntmps39
    go_wp2_with (go_at_call 54; refine (l1In_tt _ _ _ _ (by omega) (by omega)).mono ?_; rintro e w' ⟨rfl, rfl⟩)
    go_ret; exact ⟨_, rfl, hlit.out, (by repeat (first | exact Q.refl _ | assumption | refine Q.drewN ?_ _ | refine Q.drew ?_ | refine Q.alloc ?_ _ | refine Q.trans ?_ (by assumption) | refine Q.set ?_ (by first | exact Nat.le_refl _ | omega | (simp; done) | (simp; omega)) _))⟩
  · have h4' : ((n : Int) % (2 * v) != 0) = true := by rw [bne_iff_ne]; exact h4
    clear h h4
    go_enter Try.func39, Try.ntmps39
    go_wp2_with (go_at_call 54; refine (l1In_tt _ _ _ _ (by omega) (by omega)).mono ?_; rintro e w' ⟨rfl, rfl⟩)
    go_ret; exact ⟨_, rfl, hlit.out, (by repeat (first | exact Q.refl _ | assumption | refine Q.drewN ?_ _ | refine Q.drew ?_ | refine Q.alloc ?_ _ | refine Q.trans ?_ (by assumption) | refine Q.set ?_ (by first | exact Nat.le_refl _ | omega | (simp; done) | (simp; omega)) _))⟩
  · have hq1 : 0 ≤ (n : Int) / v := Int.ediv_nonneg (by omega) (by omega)
    have hq2 : (n : Int) / v ≤ n := Int.ediv_le_self _ (by omega)
    clear h
    go_enter Try.func39, Try.ntmps39
    go_wp2_with fail
    refine (l1In_tt _ _ _ _ (by omega) (by omega)).mono ?_; rintro e w' ⟨rfl, rfl⟩
    go_wp2_with fail
    refine (l1In_ff _ _ _ _ (by omega)).mono ?_; rintro e w' ⟨rfl, rfl⟩
    go_wp2_with fail
    go_ret; exact ⟨_, rfl, hlit.out, (by repeat (first | exact Q.refl _ | assumption | refine Q.drewN ?_ _ | refine Q.drew ?_ | refine Q.alloc ?_ _ | refine Q.trans ?_ (by assumption) | refine Q.set ?_ (by first | exact Nat.le_refl _ | omega | (simp; done) | (simp; omega)) _))⟩

theorem hal_mod2 (W H : Nat) : ((2 * H * (2 * W) : Nat) : Int) % (2 * ((2 * W : Nat) : Int)) = 0 := by
  rw [show ((2 * H * (2 * W) : Nat) : Int) = (H : Int) * (2 * ((2 * W : Nat) : Int)) by
    rw [Int.natCast_mul, show ((2 * H : Nat) : Int) = 2 * (H : Int) by omega, Int.mul_comm 2 (H : Int), Int.mul_assoc]]
  exact Int.mul_emod_left _ _

set_option maxHeartbeats 2000000 in
set_option maxRecDepth 100000 in
theorem spec_Halve_ok (A : Option Addr) (n c B w' W H : Nat) (xs : List Int) (w : World) (hx : Rd w B A xs) (hB : B ≤ w.heap.size) (hn : xs.length = n) (hl : n = 2 * H * (2 * W)) (hw : w' = 2 * W) (h1 : 1 ≤ W) (h2 : W ≤ 16) (h3 : 1 ≤ H) (h4 : H ≤ 16) (hch : Hid (chromaIn xs)) :
    Calls Try.prog 39 #[.slice A n c, .int .i64 w'] w fun e w' => ∃ v, e = .returned v ∧ Own w' w.heap.size v (H * W) (tab (halAt xs W) (H * W)) ∧ Q w w' := by
  have Hn := Lib.hid hn
  have hdiv : (n : Int) / (w' : Int) = ((2 * H : Nat) : Int) := by rw [hl, hw]; exact hal_div W H h1
  have hmod : (n : Int) % (2 * (w' : Int)) = 0 := by rw [hl, hw]; exact hal_mod2 W H
  have hn1 : n ≤ 1024 := by
    rw [hl]; have := Nat.mul_le_mul (show 2 * H ≤ 32 by omega) (show 2 * W ≤ 32 by omega); omega
  have hhw : H * W ≤ 256 := by have := Nat.mul_le_mul h4 h2; omega
  obtain ⟨hh, hH⟩ : ∃ hh : Nat, hh = 2 * H := ⟨_, rfl⟩
  rw [← hH] at hdiv
  have w1 : 2 ≤ w' := by omega
  have w2 : w' ≤ 32 := by omega
  have w3 : (w' : Int) % 2 = 0 := by omega
  have g1 : 2 ≤ hh := by omega
  have g2 : hh ≤ 32 := by omega
  have Hl := Lib.hid hl
  have Hw := Lib.hid hw
  have HH := Lib.hid hH
  clear hn hl hw hH
  go_enter Try.func39, Try.ntmps39
  go_wp2_with (go_at_call 54; refine (l1In_tt _ _ _ _ (by omega) (by omega)).mono ?_; rintro e w' ⟨rfl, rfl⟩)
  go_loopw [6] (fun i wr => ∃ k : Nat, k ≤ n ∧ i = .int .i64 k ∧ wr = w.alloc (.cells #[] 3) ∧ Hid (∀ j : Nat, j < k → -255 ≤ xs[j]?.getD 0 ∧ xs[j]?.getD 0 ≤ 255)) (fun i _ => n - (intOf i).toNat)
  case atStart => exact ⟨0, Nat.zero_le _, rfl, rfl, fun j hj => absurd hj (Nat.not_lt_zero _)⟩
  case round =>
    obtain ⟨k, hk, rfl, rfl, hall⟩ := hrel
    clear hall
    by_cases hlt : k < n
    · obtain ⟨b, o, rfl, hb, hc⟩ := hx (by rw [Hn.out]; omega)
      have h5 := hc k (by rw [Hn.out]; exact hlt)
      have h5' : (w.alloc (.cells #[] 3)).cell? ⟨b, o + k, none⟩ = _ := (((Q.refl w).alloc _).cell b _ (by omega)).trans h5
      obtain ⟨h6, h7⟩ := hch.out k (by rw [Hn.out]; exact hlt)
      clear hc h5
      go_wp2_with (go_at_call 54; refine (l1In_tt _ _ _ _ (by omega) (by omega)).mono ?_; rintro e w' ⟨rfl, rfl⟩)
      go_roundw
      case rel => exact ⟨k + 1, by omega, by go_num, by first | rfl | trivial, fun j hj => hch.out j (by rw [Hn.out]; omega)⟩
      case measure => simp [intOf]; omega
    · have ho := Own.lit0 w w.heap.size (Nat.le_refl _)
      have hq := (Q.refl w).alloc (.cells #[] 3)
      go_wp2_with fail
      go_loopw [5, 7] (fun v i wr => ∃ y Y : Nat, Hid (y = 2 * Y) ∧ Y ≤ H ∧ i = .int .i64 y ∧ Own wr w.heap.size v (Y * W) (tab (halAt xs W) (Y * W)) ∧ Q w wr) (fun _ i _ => hh - (intOf i).toNat)
      case atStart => exact ⟨0, 0, rfl, Nat.zero_le _, rfl, by rw [Nat.zero_mul]; exact ho, hq⟩
      case round =>
        obtain ⟨y, Y, hY, hy, rfl, ho1, hq1⟩ := hrel
        clear ho hq
        have hY' := hY.out
        have HH' := HH.out
        by_cases hlt : Y < H
        · have hlt1 : y + 2 ≤ hh := by omega
          have hrow : y * w' + 2 * w' ≤ n := by
            rw [Hl.out, ← HH', ← Hw.out, ← Nat.add_mul]
            exact Nat.mul_le_mul_right _ hlt1
          have hi1 : 0 ≤ (y : Int) * (w' : Int) := Int.mul_nonneg (by omega) (by omega)
          have hi2 : (y : Int) * (w' : Int) + 2 * w' ≤ n := by exact_mod_cast hrow
          have hb1 : Y * W + W ≤ H * W := by rw [← Nat.succ_mul]; exact Nat.mul_le_mul_right _ hlt
          have hlt' : decide (y < hh) = true := by simp; omega
          clear hY' HH'
          obtain ⟨wo, rfl⟩ : ∃ wo : World, wo = wr := ⟨_, rfl⟩
          go_wp2
          go_loopw [5, 8] (fun v i wr => ∃ x X : Nat, Hid (x = 2 * X) ∧ X ≤ W ∧ i = .int .i64 x ∧ Own wr w.heap.size v (Y * W + X) (tab (halAt xs W) (Y * W + X)) ∧ Q w wr) (fun _ i _ => w' - (intOf i).toNat)
          case atStart => exact ⟨0, 0, rfl, Nat.zero_le _, rfl, ho1, hq1⟩
          case round =>
            obtain ⟨x, X, hX, hx1, rfl, ho2, hq2⟩ := hrel
            clear ho1 hq1
            have hX' := hX.out
            have Hw' := Hw.out
            by_cases hlx : X < W
            · have hlx1 : x + 2 ≤ w' := by omega
              clear hX' Hw'
              obtain ⟨b, o, rfl, hb, hc⟩ := hx (by rw [Hn.out]; omega)
              have hcc := fun i (hi : i < n) => (hq2.cell b (o + i) (by omega)).trans (hc i (by rw [Hn.out]; exact hi))
              have e1 := hcc (y * w' + x) (by omega)
              have e2 := hcc (y * w' + x + 1) (by omega)
              have e3 := hcc (y * w' + x + w') (by omega)
              have e4 := hcc (y * w' + x + w' + 1) (by omega)
              obtain ⟨a1, ha1⟩ : ∃ a, a = xs[y * w' + x]?.getD 0 := ⟨_, rfl⟩
              obtain ⟨p1, r1⟩ := hch.out (y * w' + x) (by rw [Hn.out]; omega)
              rw [← ha1] at e1 p1 r1
              have HA1 := Lib.hid ha1
              clear ha1
              obtain ⟨a2, ha2⟩ : ∃ a, a = xs[y * w' + x + 1]?.getD 0 := ⟨_, rfl⟩
              obtain ⟨p2, r2⟩ := hch.out (y * w' + x + 1) (by rw [Hn.out]; omega)
              rw [← ha2] at e2 p2 r2
              have HA2 := Lib.hid ha2
              clear ha2
              obtain ⟨a3, ha3⟩ : ∃ a, a = xs[y * w' + x + w']?.getD 0 := ⟨_, rfl⟩
              obtain ⟨p3, r3⟩ := hch.out (y * w' + x + w') (by rw [Hn.out]; omega)
              rw [← ha3] at e3 p3 r3
              have HA3 := Lib.hid ha3
              clear ha3
              obtain ⟨a4, ha4⟩ : ∃ a, a = xs[y * w' + x + w' + 1]?.getD 0 := ⟨_, rfl⟩
              obtain ⟨p4, r4⟩ := hch.out (y * w' + x + w' + 1) (by rw [Hn.out]; omega)
              rw [← ha4] at e4 p4 r4
              have HA4 := Lib.hid ha4
              clear ha4
              have hs2 := hq2.size
              clear hc hcc hx
              have hz : ((y : Int) + 1) * (w' : Int) = (y : Int) * (w' : Int) + w' := by rw [Int.add_mul, Int.one_mul]
              have hnm : ((y * w' : Nat) : Int) = (y : Int) * (w' : Int) := Int.natCast_mul _ _
              have i1 : (0 : Int) ≤ (y : Int) * (w' : Int) + x := by omega
              have j1 : (y : Int) * (w' : Int) + x < n := by omega
              have i2 : (0 : Int) ≤ (y : Int) * (w' : Int) + x + 1 := by omega
              have j2 : (y : Int) * (w' : Int) + x + 1 < n := by omega
              have i3 : (0 : Int) ≤ ((y : Int) + 1) * (w' : Int) + x := by omega
              have j3 : ((y : Int) + 1) * (w' : Int) + x < n := by omega
              have i4 : (0 : Int) ≤ ((y : Int) + 1) * (w' : Int) + x + 1 := by omega
              have j4 : ((y : Int) + 1) * (w' : Int) + x + 1 < n := by omega
              have m1 : ((y : Int) * (w' : Int) + x).toNat = y * w' + x := by omega
              have m2 : ((y : Int) * (w' : Int) + x + 1).toNat = y * w' + x + 1 := by omega
              have m3 : (((y : Int) + 1) * (w' : Int) + x).toNat = y * w' + x + w' := by omega
              have m4 : (((y : Int) + 1) * (w' : Int) + x + 1).toNat = y * w' + x + w' + 1 := by omega
              have s1 : IntKind.i64.wrap ((y : Int) * (w' : Int)) = (y : Int) * (w' : Int) := IntWalk.i64_in _ ⟨by omega, by omega⟩
              have s2 : IntKind.i64.wrap (((y : Int) + 1) * (w' : Int)) = ((y : Int) + 1) * (w' : Int) := IntWalk.i64_in _ ⟨by omega, by omega⟩
              have s3 : IntKind.i64.wrap ((y : Int) + 1) = (y : Int) + 1 := IntWalk.i64_in _ ⟨by omega, by omega⟩
              have s4 : IntKind.i64.wrap ((y : Int) * (w' : Int) + x) = (y : Int) * (w' : Int) + x := IntWalk.i64_in _ ⟨by omega, by omega⟩
              have s5 : IntKind.i64.wrap ((y : Int) * (w' : Int) + x + 1) = (y : Int) * (w' : Int) + x + 1 := IntWalk.i64_in _ ⟨by omega, by omega⟩
              have s6 : IntKind.i64.wrap (((y : Int) + 1) * (w' : Int) + x) = ((y : Int) + 1) * (w' : Int) + x := IntWalk.i64_in _ ⟨by omega, by omega⟩
              have s7 : IntKind.i64.wrap (((y : Int) + 1) * (w' : Int) + x + 1) = ((y : Int) + 1) * (w' : Int) + x + 1 := IntWalk.i64_in _ ⟨by omega, by omega⟩
              have s8 : IntKind.i64.wrap (a1 + a2) = a1 + a2 := IntWalk.i64_in _ ⟨by omega, by omega⟩
              have s9 : IntKind.i64.wrap (a1 + a2 + a3) = a1 + a2 + a3 := IntWalk.i64_in _ ⟨by omega, by omega⟩
              have s10 : IntKind.i64.wrap (a1 + a2 + a3 + a4) = a1 + a2 + a3 + a4 := IntWalk.i64_in _ ⟨by omega, by omega⟩
              clear hz hnm
              go_wp2_with fail
              go_quiet (fail)
              clear m1 m2 m3 m4 s1 s2 s3 s4 s5 s6 s7 s8 s9 s10 i1 j1 e1 i2 j2 e2 i3 j3 e3 i4 j4 e4
              go_wp2_with fail
              refine (l7Floor _ _ _ (by omega) (by omega) (by omega) (by omega)).mono ?_; rintro e w' ⟨rfl, rfl⟩
              have HS : Hid ((a1 + a2 + a3 + a4 + 2) / 4 = halAt xs W (Y * W + X)) := by
                unfold Hid
                rw [halAt_row xs W Y X hlx]
                unfold halSq
                rw [HA1.out, HA2.out, HA3.out, HA4.out, Hw.out, hY.out, hX.out]
              have ho2d := ho2.drewN nq
              have hq2d := hq2.drewN nq
              go_wp2_with ((at_builtin; refine wpList_append_int rfl _ _ rfl w w.heap.size _ _ _ rfl (ho2d.alloc _) ⟨_, 0, none⟩ _ _ rfl (by first | exact Nat.le_refl _ | omega | (simp; done) | (simp; omega)) (by first | exact Nat.le_refl _ | omega | (simp; done) | (simp; omega)) (by first | exact Nat.le_refl _ | omega | (simp; done) | (simp; omega)) (hq2d.alloc _) (World.cell?_alloc_new _ _ _ _) ?_; intro v' w' ho3 hq3 hs3 _; skip))
              go_roundw
              case rel => exact ⟨x + 2, X + 1, by have := hX.out; show _ = _; omega, by omega, by go_num, by have h := ho3; rw [HS.out, ← tab_succ] at h; exact h, hq3⟩
              case measure => simp [intOf]; omega
            · have hX2 : x = w' := by omega
              clear hX' Hw'
              have hlx' : decide (x < w') = false := by simp; omega
              have eX : X = W := by omega
              have ho3 := ho2
              have e1 : Y * W + W = (Y + 1) * W := (Nat.succ_mul Y W).symm
              rw [eX, e1] at ho3
              have HX2 := Lib.hid hX2
              clear hX2
              clear eX ho2 e1
              go_wp2_with fail
              go_roundw
              case rel => exact ⟨y + 2, Y + 1, by have := hY.out; show _ = _; omega, by omega, by go_num, ho3, hq2⟩
              case measure => simp [intOf]; omega
        · have hlt' : decide (y < hh) = false := by simp; omega
          clear hY' HH'
          go_wp2_with fail
          go_ret
          have e : Y = H := by omega
          subst e
          exact ⟨_, rfl, ho1, hq1⟩
end Go.Proofs.Ytnmegieibcmhcaa
