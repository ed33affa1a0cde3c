/-
  HalveChroma, of the program and of the reference: both give the means of the squares of 2 by 2 numbers.
-/
import Derived.Test.YtnmegieibcmhcaaAppend
import Derived.Test.YtnmegieibcmhcaaSmall
import Derived.Test.YtnmegieibcmhcaaTab
import Derived.Deep.RegionHeld3
import Derived.Deep.DrawnRows
namespace Go.Proofs.Ytnmegieibcmhcaa
open Go.RowKit

/-- The table has 2 * W columns and 2 * H rows, W and H in 1..16. -/
def halOk (n : Nat) (w : Int) : Prop := ∃ W H : Nat, w = ((2 * W : Nat) : Int) ∧ n = 2 * H * (2 * W) ∧ 1 ≤ W ∧ W ≤ 16 ∧ 1 ≤ H ∧ H ≤ 16
def chromaIn (xs : List Int) : Prop := ∀ i : Nat, i < xs.length → -255 ≤ xs[i]?.getD 0 ∧ xs[i]?.getD 0 ≤ 255
def halSq (xs : List Int) (w a : Nat) : Int := (xs[a]?.getD 0 + xs[a + 1]?.getD 0 + xs[a + w]?.getD 0 + xs[a + w + 1]?.getD 0 + 2) / 4
def halAt (xs : List Int) (W j : Nat) : Int := halSq xs (2 * W) (2 * (j / W) * (2 * W) + 2 * (j % W))
open Classical in
noncomputable def hal (xs : List Int) (w : Int) : List Int := if halOk xs.length w ∧ chromaIn xs then tab (halAt xs (w.toNat / 2)) (xs.length / 4) else []

theorem halAt_row (xs : List Int) (W Y X : Nat) (h : X < W) : halAt xs W (Y * W + X) = halSq xs (2 * W) (2 * Y * (2 * W) + 2 * X) := by
  unfold halAt; rw [row_div _ _ _ h, row_mod _ _ _ h]

theorem hal_ok (xs : List Int) (W H : Nat) (hl : xs.length = 2 * H * (2 * W)) (hc : chromaIn xs) (h1 : 1 ≤ W) (h2 : W ≤ 16) (h3 : 1 ≤ H) (h4 : H ≤ 16) : hal xs ((2 * W : Nat) : Int) = tab (halAt xs W) (H * W) := by
  unfold hal
  rw [if_pos ⟨⟨W, H, rfl, hl, h1, h2, h3, h4⟩, hc⟩, hl, Int.toNat_natCast]
  rw [show 2 * W / 2 = W by omega, show 2 * H * (2 * W) / 4 = H * W by rw [Nat.mul_mul_mul_comm]; omega]

theorem hal_len (xs : List Int) (v : Int) : (hal xs v).length ≤ 1024 := by
  unfold hal
  split
  · rename_i h
    obtain ⟨⟨W, H, _, hl, h1, h2, h3, h4⟩, _⟩ := h
    rw [length_tab, hl]
    have := Nat.mul_le_mul h4 h2
    rw [Nat.mul_mul_mul_comm]
    omega
  · simp

/-- What the program tests, where the table is none. -/
theorem hal_no (n : Nat) (w : Int) (h : ¬ halOk n w) : w < 2 ∨ 32 < w ∨ (2 ≤ w ∧ w ≤ 32 ∧ (w % 2 ≠ 0 ∨ (w % 2 = 0 ∧ ((n : Int) % w ≠ 0 ∨ ((n : Int) % w = 0 ∧ ((n : Int) / w < 2 ∨ 32 < (n : Int) / w ∨ (2 ≤ (n : Int) / w ∧ (n : Int) / w ≤ 32 ∧ (n : Int) / w % 2 ≠ 0))))))) := by
  apply Classical.byContradiction
  intro hc
  apply h
  have h1 : 2 ≤ w := by omega
  have h2 : w ≤ 32 := by omega
  have h3 : w % 2 = 0 := by omega
  have h4 : (n : Int) % w = 0 := by omega
  have h5 : 2 ≤ (n : Int) / w := by omega
  have h6 : (n : Int) / w ≤ 32 := by omega
  have h7 : (n : Int) / w % 2 = 0 := by omega
  refine ⟨w.toNat / 2, ((n : Int) / w).toNat / 2, by omega, ?_, by omega, by omega, by omega, by omega⟩
  have e1 := Int.mul_ediv_add_emod (n : Int) w
  rw [h4, Int.add_zero] at e1
  have e2 : ((2 * (((n : Int) / w).toNat / 2) : Nat) : Int) = (n : Int) / w := by omega
  have e3 : ((2 * (w.toNat / 2) : Nat) : Int) = w := by omega
  apply Int.ofNat.inj
  show (n : Int) = ((2 * (((n : Int) / w).toNat / 2) * (2 * (w.toNat / 2)) : Nat) : Int)
  rw [Int.natCast_mul, e2, e3, Int.mul_comm]
  exact e1.symm

theorem emod_two_mul (n w : Int) (hw : 0 < w) (_hn : 0 ≤ n) : n % (2 * w) = 0 ↔ n % w = 0 ∧ n / w % 2 = 0 := by
  have e1 := Int.mul_ediv_add_emod n w
  constructor
  · intro h
    obtain ⟨k, hk⟩ := Int.dvd_of_emod_eq_zero h
    have h1 : n = w * (2 * k) := by rw [hk, Int.mul_comm 2 w, Int.mul_assoc]
    rw [h1]
    refine ⟨Int.mul_emod_right _ _, ?_⟩
    rw [Int.mul_ediv_cancel_left _ (by omega)]
    omega
  · rintro ⟨h1, h2⟩
    obtain ⟨k, hk⟩ := Int.dvd_of_emod_eq_zero h2
    rw [h1, Int.add_zero, hk] at e1
    rw [← e1, ← Int.mul_assoc, Int.mul_comm w 2]
    exact Int.mul_emod_right _ _

/-- What the reference tests, where the table is none. -/
theorem hal_no2 (n : Nat) (w : Int) (h : ¬ halOk n w) : w < 2 ∨ 32 < w ∨ (2 ≤ w ∧ w ≤ 32 ∧ (w % 2 ≠ 0 ∨ (w % 2 = 0 ∧ ((n : Int) % (2 * w) ≠ 0 ∨ ((n : Int) % (2 * w) = 0 ∧ ((n : Int) / w < 2 ∨ 32 < (n : Int) / w)))))) := by
  rcases hal_no n w h with h | h | ⟨h1, h2, h3⟩
  · exact .inl h
  · exact .inr (.inl h)
  · refine .inr (.inr ⟨h1, h2, ?_⟩)
    rcases h3 with h3 | ⟨h3, h4⟩
    · exact .inl h3
    · refine .inr ⟨h3, ?_⟩
      have := emod_two_mul (n : Int) w (by omega) (by omega)
      by_cases hm : (n : Int) % (2 * w) = 0
      · refine .inr ⟨hm, ?_⟩
        have h5 := this.1 hm
        omega
      · exact .inl hm

theorem hal_div (W H : Nat) (h : 1 ≤ W) : ((2 * H * (2 * W) : Nat) : Int) / ((2 * W : Nat) : Int) = ((2 * H : Nat) : Int) := by
  rw [Int.natCast_mul, Int.mul_ediv_cancel _ (by omega)]
theorem hal_mod (W H : Nat) : ((2 * H * (2 * W) : Nat) : Int) % ((2 * W : Nat) : Int) = 0 := by
  rw [Int.natCast_mul, Int.mul_emod_left]

set_option maxHeartbeats 2000000 in
theorem impl_Halve_ok (A : Option Addr) (n c B w' W H : Nat) (xs : List Int) (w : World) (hx : Rd w B A xs) (hB : B ≤ w.heap.size) (hn : xs.length = n) (hl : n = 2 * H * (2 * W)) (hw : w' = 2 * W) (h1 : 1 ≤ W) (h2 : W ≤ 16) (h3 : 1 ≤ H) (h4 : H ≤ 16) (hch : Hid (chromaIn xs)) :
    Calls Try.prog 38 #[.slice A n c, .int .i64 w'] w fun e w' => ∃ v, e = .returned v ∧ Own w' w.heap.size v (H * W) (tab (halAt xs W) (H * W)) ∧ Q w w' := by
  have Hn := Lib.hid hn
  have hdiv : (n : Int) / (w' : Int) = ((2 * H : Nat) : Int) := by rw [hl, hw]; exact hal_div W H h1
  have hmod : (n : Int) % (w' : Int) = 0 := by rw [hl, hw]; exact hal_mod W H
  have hn1 : n ≤ 1024 := by
    rw [hl]; have := Nat.mul_le_mul (show 2 * H ≤ 32 by omega) (show 2 * W ≤ 32 by omega); omega
  have hn4 : (n : Int) / 4 = ((H * W : Nat) : Int) := by
    rw [hl, Nat.mul_mul_mul_comm]; omega
  have hhw : H * W ≤ 256 := by have := Nat.mul_le_mul h4 h2; omega
  obtain ⟨hh, hH⟩ : ∃ hh : Nat, hh = 2 * H := ⟨_, rfl⟩
  rw [← hH] at hdiv
  have w1 : 2 ≤ w' := by omega
  have w2 : w' ≤ 32 := by omega
  have w3 : (w' : Int) % 2 = 0 := by omega
  have g1 : 2 ≤ hh := by omega
  have g2 : hh ≤ 32 := by omega
  have g3 : (hh : Int) % 2 = 0 := by omega
  have Hl := Lib.hid hl
  have Hw := Lib.hid hw
  have HH := Lib.hid hH
  clear hn hl hw hH
  go_enter Try.func38, Try.ntmps38
  go_wp2_with fail
  go_loop [47] (fun i => ∃ k : Nat, k ≤ n ∧ i = .int .i64 k ∧ Hid (∀ j : Nat, j < k → -255 ≤ xs[j]?.getD 0 ∧ xs[j]?.getD 0 ≤ 255)) (fun i => n - (intOf i).toNat)
  case atStart => exact ⟨0, Nat.zero_le _, rfl, fun j hj => absurd hj (Nat.not_lt_zero _)⟩
  case round =>
    obtain ⟨k, hk, rfl, hall⟩ := hrel
    clear hall
    by_cases hlt : k < n
    · obtain ⟨b, o, rfl, hb, hc⟩ := hx (by rw [Hn.out]; omega)
      have h5 := hc k (by rw [Hn.out]; exact hlt)
      obtain ⟨h6, h7⟩ := hch.out k (by rw [Hn.out]; exact hlt)
      clear hc
      go_wp2_with fail
      go_round
      case rel => exact ⟨k + 1, by omega, by go_num, fun j hj => hch.out j (by rw [Hn.out]; omega)⟩
      case measure => simp [intOf]; omega
    · go_wp2_with (at_make; refine wpList_make_int0 rfl _ _ rfl w (H * W) _ rfl rfl rfl (by omega) (Q.refl w) ?_; intro w1 ho hq hs)
      go_loopw [8, 9] (fun v i wr => ∃ y Y : Nat, Hid (y = 2 * Y) ∧ Y ≤ H ∧ i = .int .i64 y ∧ Own wr w.heap.size v (Y * W) (tab (halAt xs W) (Y * W)) ∧ Q w wr) (fun _ i _ => hh - (intOf i).toNat)
      case atStart => exact ⟨0, 0, rfl, Nat.zero_le _, rfl, by rw [Nat.zero_mul]; exact ho, hq⟩
      case round =>
        obtain ⟨y, Y, hY, hy, rfl, ho1, hq1⟩ := hrel
        clear ho hq hs
        have hY' := hY.out
        have HH' := HH.out
        by_cases hlt : Y < H
        · have hlt1 : y + 2 ≤ hh := by omega
          have hrow : y * w' + 2 * w' ≤ n := by
            rw [Hl.out, ← HH', ← Hw.out, ← Nat.add_mul]
            exact Nat.mul_le_mul_right _ hlt1
          have hi1 : 0 ≤ (y : Int) * (w' : Int) := Int.mul_nonneg (by omega) (by omega)
          have hi2 : (y : Int) * (w' : Int) + 2 * w' ≤ n := by exact_mod_cast hrow
          have hb1 : Y * W + W ≤ H * W := by rw [← Nat.succ_mul]; exact Nat.mul_le_mul_right _ hlt
          have hlt' : decide (y < hh) = true := by simp; omega
          clear hY' HH'
          obtain ⟨wo, rfl⟩ : ∃ wo : World, wo = wr := ⟨_, rfl⟩
          go_wp2
          go_loopw [8, 10] (fun v i wr => ∃ x X : Nat, Hid (x = 2 * X) ∧ X ≤ W ∧ i = .int .i64 x ∧ Own wr w.heap.size v (Y * W + X) (tab (halAt xs W) (Y * W + X)) ∧ Q w wr) (fun _ i _ => w' - (intOf i).toNat)
          case atStart => exact ⟨0, 0, rfl, Nat.zero_le _, rfl, ho1, hq1⟩
          case round =>
            obtain ⟨x, X, hX, hx1, rfl, ho2, hq2⟩ := hrel
            clear ho1 hq1
            have hX' := hX.out
            have Hw' := Hw.out
            by_cases hlx : X < W
            · have hlx1 : x + 2 ≤ w' := by omega
              clear hX' Hw'
              obtain ⟨b, o, rfl, hb, hc⟩ := hx (by rw [Hn.out]; omega)
              have hcc := fun i (hi : i < n) => (hq2.cell b (o + i) (by omega)).trans (hc i (by rw [Hn.out]; exact hi))
              have e1 := hcc (y * w' + x) (by omega)
              have e2 := hcc (y * w' + x + 1) (by omega)
              have e3 := hcc (y * w' + x + w') (by omega)
              have e4 := hcc (y * w' + x + w' + 1) (by omega)
              obtain ⟨a1, ha1⟩ : ∃ a, a = xs[y * w' + x]?.getD 0 := ⟨_, rfl⟩
              obtain ⟨p1, r1⟩ := hch.out (y * w' + x) (by rw [Hn.out]; omega)
              rw [← ha1] at e1 p1 r1
              have HA1 := Lib.hid ha1
              clear ha1
              obtain ⟨a2, ha2⟩ : ∃ a, a = xs[y * w' + x + 1]?.getD 0 := ⟨_, rfl⟩
              obtain ⟨p2, r2⟩ := hch.out (y * w' + x + 1) (by rw [Hn.out]; omega)
              rw [← ha2] at e2 p2 r2
              have HA2 := Lib.hid ha2
              clear ha2
              obtain ⟨a3, ha3⟩ : ∃ a, a = xs[y * w' + x + w']?.getD 0 := ⟨_, rfl⟩
              obtain ⟨p3, r3⟩ := hch.out (y * w' + x + w') (by rw [Hn.out]; omega)
              rw [← ha3] at e3 p3 r3
              have HA3 := Lib.hid ha3
              clear ha3
              obtain ⟨a4, ha4⟩ : ∃ a, a = xs[y * w' + x + w' + 1]?.getD 0 := ⟨_, rfl⟩
              obtain ⟨p4, r4⟩ := hch.out (y * w' + x + w' + 1) (by rw [Hn.out]; omega)
              rw [← ha4] at e4 p4 r4
              have HA4 := Lib.hid ha4
              clear ha4
              have hsh : ∀ n : Int, n >>> 2 = n / 4 := fun n => by rw [Int.shiftRight_eq_div_pow]; rfl
              have hs2 := hq2.size
              clear hc hcc hx
              go_wp2_with fail
              have i1 : (0 : Int) ≤ (y : Int) * (w' : Int) + x := by omega
              have i2 : (y : Int) * (w' : Int) + x < n := by omega
              have i3 : (0 : Int) ≤ (y : Int) * (w' : Int) + x + 1 := by omega
              have i4 : (y : Int) * (w' : Int) + x + 1 < n := by omega
              have i5 : (0 : Int) ≤ (y : Int) * (w' : Int) + x + w' := by omega
              have i6 : (y : Int) * (w' : Int) + x + w' < n := by omega
              have i7 : (0 : Int) ≤ (y : Int) * (w' : Int) + x + w' + 1 := by omega
              have i8 : (y : Int) * (w' : Int) + x + w' + 1 < n := by omega
              have m1 : ((y : Int) * (w' : Int) + x).toNat = y * w' + x := by have : ((y * w' : Nat) : Int) = (y : Int) * (w' : Int) := Int.natCast_mul _ _; omega
              have m2 : ((y : Int) * (w' : Int) + x + 1).toNat = y * w' + x + 1 := by have : ((y * w' : Nat) : Int) = (y : Int) * (w' : Int) := Int.natCast_mul _ _; omega
              have m3 : ((y : Int) * (w' : Int) + x + w').toNat = y * w' + x + w' := by have : ((y * w' : Nat) : Int) = (y : Int) * (w' : Int) := Int.natCast_mul _ _; omega
              have m4 : ((y : Int) * (w' : Int) + x + w' + 1).toNat = y * w' + x + w' + 1 := by have : ((y * w' : Nat) : Int) = (y : Int) * (w' : Int) := Int.natCast_mul _ _; omega
              have s2 : IntKind.i64.wrap ((y : Int) * (w' : Int) + x + 1) = (y : Int) * (w' : Int) + x + 1 := IntWalk.i64_in _ ⟨by omega, by omega⟩
              have s3 : IntKind.i64.wrap ((y : Int) * (w' : Int) + x + w') = (y : Int) * (w' : Int) + x + w' := IntWalk.i64_in _ ⟨by omega, by omega⟩
              have s4 : IntKind.i64.wrap ((y : Int) * (w' : Int) + x + w' + 1) = (y : Int) * (w' : Int) + x + w' + 1 := IntWalk.i64_in _ ⟨by omega, by omega⟩
              have s5 : IntKind.i64.wrap (a1 + a2) = a1 + a2 := IntWalk.i64_in _ ⟨by omega, by omega⟩
              have s6 : IntKind.i64.wrap (a1 + a2 + a3) = a1 + a2 + a3 := IntWalk.i64_in _ ⟨by omega, by omega⟩
              have s7 : IntKind.i64.wrap (a1 + a2 + a3 + a4) = a1 + a2 + a3 + a4 := IntWalk.i64_in _ ⟨by omega, by omega⟩
              have s8 : IntKind.i64.wrap (a1 + a2 + a3 + a4 + 2) = a1 + a2 + a3 + a4 + 2 := IntWalk.i64_in _ ⟨by omega, by omega⟩
              go_region_held3 (fun ww => ww.cell? ⟨b, o + (y * w' + x), none⟩ = some (.int .i64 a1) ∧ ww.cell? ⟨b, o + (y * w' + x + 1), none⟩ = some (.int .i64 a2) ∧ ww.cell? ⟨b, o + (y * w' + x + w'), none⟩ = some (.int .i64 a3) ∧ ww.cell? ⟨b, o + (y * w' + x + w' + 1), none⟩ = some (.int .i64 a4))
                (first | go_keep | (refine ⟨?_, ?_, ?_, ?_⟩ <;> (rw [hq3.cell _ _ (by omega), ← hq2.cell _ _ (by omega)]; assumption)))
                ((refine step_append_int (by rfl) _ _ (by rfl) w w.heap.size _ _ _ (by rfl) (ho2.alloc _).drew ⟨wr.heap.size, 0, none⟩ ((a1 + a2 + a3 + a4 + 2) / 4) 1 (by rfl) (by omega) (Nat.le_refl _) (by simp; omega) ((hq2.alloc _).drew) (by simp) ?_; intro g3 cap3 w3 ho3 hq3 hs3 _))
              have HS : Hid ((a1 + a2 + a3 + a4 + 2) / 4 = halAt xs W (Y * W + X)) := by
                unfold Hid
                rw [halAt_row xs W Y X hlx]
                unfold halSq
                rw [HA1.out, HA2.out, HA3.out, HA4.out, Hw.out, hY.out, hX.out]
              clear m1 m2 m3 m4 s2 s3 s4 s5 s6 s7 s8 i1 i2 i3 i4 i5 i6 i7 i8 e1 e2 e3 e4 p1 r1 p2 r2 p3 r3 p4 r4 ho2
              go_wp2_with fail
              go_roundw
              case rel => exact ⟨x + 2, X + 1, by have := hX.out; show _ = _; omega, by omega, by go_num, by have h := ho3; rw [HS.out, ← tab_succ] at h; exact h, hq3⟩
              case measure => simp [intOf]; omega
            · have hX2 : x = w' := by omega
              clear hX' Hw'
              have hlx' : decide (x < w') = false := by simp; omega
              have eX : X = W := by omega
              have ho3 := ho2
              have e1 : Y * W + W = (Y + 1) * W := (Nat.succ_mul Y W).symm
              rw [eX, e1] at ho3
              have HX2 := Lib.hid hX2
              clear eX ho2 e1
              clear hX2
              go_wp2_with fail
              go_roundw
              case rel => exact ⟨y + 2, Y + 1, by have := hY.out; show _ = _; omega, by omega, by go_num, ho3, hq2⟩
              case measure => simp [intOf]; omega
        · have hlt' : decide (y < hh) = false := by simp; omega
          clear hY' HH'
          go_wp2_with fail
          go_ret
          have e : Y = H := by omega
          subst e
          exact ⟨_, rfl, ho1, hq1⟩
end Go.Proofs.Ytnmegieibcmhcaa
