/-
  A sample of a picture; positions outside are moved to the nearest one inside: the program's 'at' and the reference's.
-/
import Derived.Test.YtoipcfpbkjanhaaPicts
import Derived.Test.YtoipcfpbkjanhaaAft
import Derived.Deep.RegionWith
namespace Go.Proofs.Ytoipcfpbkjanhaa
open Go.RowKit

/-- the nearest number in 0..hi -/
def clp (n hi : Int) : Int := if n < 0 then 0 else if hi < n then hi else n
theorem clp_in (n : Int) {hi : Int} (h : 0 ≤ hi) : 0 ≤ clp n hi ∧ clp n hi ≤ hi := by unfold clp; split <;> (try split) <;> omega
def smpAt (W H : Int) (xs : List Int) (x y : Int) : Int := xs[(clp y (H - 1) * W + clp x (W - 1)).toNat]?.getD 0
theorem smp_in {W H : Int} {xs : List Int} (h : picB W H xs = true) (x y : Int) : 0 ≤ smpAt W H xs x y ∧ smpAt W H xs x y ≤ 255 := by
  obtain ⟨pW, pH, pl, pa⟩ := picB_parts h
  unfold smpAt
  rcases Nat.lt_or_ge (clp y (H - 1) * W + clp x (W - 1)).toNat xs.length with hl | hl
  · exact allB_get pa _ hl
  · rw [List.getElem?_eq_none hl]; simp

theorem ret_i {a b : Int} (h : a = b) : Ending.returned (.int .i64 a) = .returned (.int .i64 b) := by rw [h]
set_option maxHeartbeats 1000000 in
theorem clamp0 (n hi : Int) (w : World) (h : 0 ≤ hi) : Calls Try.prog 69 #[.int .i64 n, .int .i64 0, .int .i64 hi] w fun e w' => e = .returned (.int .i64 (clp n hi)) ∧ w = w' := by
  have e : clp n hi = min (max n 0) hi := by unfold clp; split <;> (try split) <;> omega
  have E := Lib.hid e
  clear e
  go_enter Try.func69, Try.ntmps69
  go_wp2
  all_goals (go_ret; exact ⟨ret_i (by rw [E.out]; omega), rfl⟩)
set_option maxHeartbeats 1000000 in
theorem clip0 (n hi : Int) (w : World) (h : 0 ≤ hi) : Calls Try.prog 67 #[.int .i64 n, .int .i64 0, .int .i64 hi] w fun e w' => e = .returned (.int .i64 (clp n hi)) ∧ w = w' := by
  have e : clp n hi = max 0 (min hi n) := by unfold clp; split <;> (try split) <;> omega
  have E := Lib.hid e
  clear e
  go_enter Try.func67, Try.ntmps67
  go_wp2
  all_goals (go_ret; exact ⟨ret_i (by rw [E.out]; omega), rfl⟩)

theorem idx_in {W H cx cy : Int} {n : Nat} (hl : (n : Int) = W * H) (h1 : 8 ≤ W) (h2 : W ≤ 32) (h3 : 8 ≤ H) (h4 : H ≤ 32) (hx : 0 ≤ cx ∧ cx ≤ W - 1) (hy : 0 ≤ cy ∧ cy ≤ H - 1) :
    0 ≤ cy * W ∧ cy * W ≤ 1024 ∧ 0 ≤ cy * W + cx ∧ cy * W + cx < n ∧ n ≤ 1024 := by
  have e1 : cy * W ≤ (H - 1) * W := Int.mul_le_mul_of_nonneg_right hy.2 (by omega)
  have e2 : 0 ≤ cy * W := Int.mul_nonneg hy.1 (by omega)
  have e3 : (H - 1) * W = W * H - W := by rw [Int.sub_mul, Int.one_mul, Int.mul_comm]
  have := (area_le h1 h2 h3 h4).2
  omega
set_option maxRecDepth 100000 in
set_option maxHeartbeats 2000000 in
theorem impl_at (W H x y : Int) (A : Option Addr) (n c B : Nat) (xs : List Int) (w : World) (hx : Rd w B A xs) (hB : B ≤ w.heap.size) (hn : Hid (xs.length = n)) (hp : Hid (picB W H xs = true)) :
    Calls Try.prog 54 #[.agg #[.int .i64 W, .int .i64 H, .slice A n c], .int .i64 x, .int .i64 y] w fun e w' => e = .returned (.int .i64 (smpAt W H xs x y)) ∧ Q w w' := by
  (obtain ⟨pW, pH, pl, pa⟩ := picB_parts hp.out; rw [hn.out] at pl; have hcx := clp_in x (hi := W - 1) (by omega); have hcy := clp_in y (hi := H - 1) (by omega); have T1 : Hid (∀ w : World, Calls Try.prog 69 #[.int .i64 y, .int .i64 0, .int .i64 (H - 1)] w fun e w' => e = .returned (.int .i64 (clp y (H - 1))) ∧ Q w w') := fun w => (clamp0 y (H - 1) w (by omega)).mono fun _ _ h => ⟨h.1, by rw [h.2]; exact Q.refl _⟩; have T2 : Hid (∀ w : World, Calls Try.prog 69 #[.int .i64 x, .int .i64 0, .int .i64 (W - 1)] w fun e w' => e = .returned (.int .i64 (clp x (W - 1))) ∧ Q w w') := fun w => (clamp0 x (W - 1) w (by omega)).mono fun _ _ h => ⟨h.1, by rw [h.2]; exact Q.refl _⟩; unfold smpAt; generalize clp x (W - 1) = cx at hcx T2 ⊢; generalize clp y (H - 1) = cy at hcy T1 ⊢)
  (obtain ⟨i1, i2, i3, i4, i5⟩ := idx_in pl pW.1 pW.2.1 pH.1 pH.2.1 hcx hcy; have q0 : Q w (w.alloc (.cells #[.int .i64 W, .int .i64 H, .slice A n c] 27)) := (by repeat (first | exact Q.refl _ | assumption | refine Q.drewN ?_ _ | refine Q.drew ?_ | refine Q.alloc ?_ _ | refine Q.trans ?_ (by assumption) | refine Q.set ?_ (by first | exact Nat.le_refl _ | omega | (simp; done) | (simp; omega)) _)); have b0 := (Blk.new w 27 #[.int .i64 W, .int .i64 H, .slice A n c]).aft; have HX := hx.q q0 hB; obtain ⟨b, o, rfl, hb, hc⟩ := HX (by rw [hn.out]; omega); have hq : ∀ z : Aft (w.alloc (.cells #[.int .i64 W, .int .i64 H, .slice (some ⟨b, o, none⟩) n c] 27)), z.at_.cell? ⟨b, o + (cy * W + cx).toNat, none⟩ = some (.int .i64 (xs[(cy * W + cx).toNat]?.getD 0)) := fun z => ((z.q).cell b _ (by simp; omega)).trans (hc _ (by rw [hn.out]; omega)))
  generalize xs[(cy * W + cx).toNat]?.getD 0 = s at hq ⊢
  obtain ⟨p, hp'⟩ : ∃ p, cy * W = p := ⟨_, rfl⟩
  rw [hp'] at i1 i2 i3 i4 hq
  have t1 : IntKind.i64.wrap (cy * W) = p := by rw [hp']; exact IntWalk.i64_in _ ⟨by omega, by omega⟩
  have t2 : wrap64 (cy * W) = p := by rw [← IntWalk.i64_left, t1]
  have t3 : IntKind.i64.wrap (p + cx) = p + cx := IntWalk.i64_in _ ⟨by omega, by omega⟩
  have t4 : IntKind.i64.wrap (H - 1) = H - 1 := IntWalk.i64_in _ ⟨by omega, by omega⟩
  have t5 : IntKind.i64.wrap (W - 1) = W - 1 := IntWalk.i64_in _ ⟨by omega, by omega⟩
  clear hp' hc hx HX pl pW pH hcx hcy pa
  go_enter Try.func54, Try.ntmps54
  go_wp2_with fail
  refine wp_region_aft (by kernel_rfl) (by kernel_rfl) ?_
  repeat (go_big_quiet_step (first | (go_at_call_of 69 x; exact Calls.aft (T2.out _)) | (go_at_call_of 69 y; exact Calls.aft (T1.out _))))
  refine wpQuiet_nil ?_
  rintro _ ⟨⟨w7, qq⟩, rfl⟩
  go_wp2_with fail
  go_ret
  exact ⟨rfl, q0.trans qq⟩
set_option maxRecDepth 100000 in
set_option maxHeartbeats 2000000 in
theorem spec_at (W H x y : Int) (A : Option Addr) (n c B : Nat) (xs : List Int) (w : World) (hx : Rd w B A xs) (hB : B ≤ w.heap.size) (hn : Hid (xs.length = n)) (hp : Hid (picB W H xs = true)) :
    Calls Try.prog 52 #[.agg #[.int .i64 W, .int .i64 H, .slice A n c], .int .i64 x, .int .i64 y] w fun e w' => e = .returned (.int .i64 (smpAt W H xs x y)) ∧ Q w w' := by
  (obtain ⟨pW, pH, pl, pa⟩ := picB_parts hp.out; rw [hn.out] at pl; have hcx := clp_in x (hi := W - 1) (by omega); have hcy := clp_in y (hi := H - 1) (by omega); have T1 : Hid (∀ w : World, Calls Try.prog 67 #[.int .i64 y, .int .i64 0, .int .i64 (H - 1)] w fun e w' => e = .returned (.int .i64 (clp y (H - 1))) ∧ Q w w') := fun w => (clip0 y (H - 1) w (by omega)).mono fun _ _ h => ⟨h.1, by rw [h.2]; exact Q.refl _⟩; have T2 : Hid (∀ w : World, Calls Try.prog 67 #[.int .i64 x, .int .i64 0, .int .i64 (W - 1)] w fun e w' => e = .returned (.int .i64 (clp x (W - 1))) ∧ Q w w') := fun w => (clip0 x (W - 1) w (by omega)).mono fun _ _ h => ⟨h.1, by rw [h.2]; exact Q.refl _⟩; unfold smpAt; generalize clp x (W - 1) = cx at hcx T2 ⊢; generalize clp y (H - 1) = cy at hcy T1 ⊢)
  (obtain ⟨i1, i2, i3, i4, i5⟩ := idx_in pl pW.1 pW.2.1 pH.1 pH.2.1 hcx hcy; have q0 : Q w (w.alloc (.cells #[.int .i64 W, .int .i64 H, .slice A n c] 27)) := (by repeat (first | exact Q.refl _ | assumption | refine Q.drewN ?_ _ | refine Q.drew ?_ | refine Q.alloc ?_ _ | refine Q.trans ?_ (by assumption) | refine Q.set ?_ (by first | exact Nat.le_refl _ | omega | (simp; done) | (simp; omega)) _)); have b0 := (Blk.new w 27 #[.int .i64 W, .int .i64 H, .slice A n c]).aft; have HX := hx.q q0 hB; obtain ⟨b, o, rfl, hb, hc⟩ := HX (by rw [hn.out]; omega); have hq : ∀ z : Aft (w.alloc (.cells #[.int .i64 W, .int .i64 H, .slice (some ⟨b, o, none⟩) n c] 27)), z.at_.cell? ⟨b, o + (cy * W + cx).toNat, none⟩ = some (.int .i64 (xs[(cy * W + cx).toNat]?.getD 0)) := fun z => ((z.q).cell b _ (by simp; omega)).trans (hc _ (by rw [hn.out]; omega)))
  generalize xs[(cy * W + cx).toNat]?.getD 0 = s at hq ⊢
  obtain ⟨p, hp'⟩ : ∃ p, cy * W = p := ⟨_, rfl⟩
  rw [hp'] at i1 i2 i3 i4 hq
  have t1 : IntKind.i64.wrap (cy * W) = p := by rw [hp']; exact IntWalk.i64_in _ ⟨by omega, by omega⟩
  have t2 : wrap64 (cy * W) = p := by rw [← IntWalk.i64_left, t1]
  have t3 : IntKind.i64.wrap (p + cx) = p + cx := IntWalk.i64_in _ ⟨by omega, by omega⟩
  have t4 : IntKind.i64.wrap (H - 1) = H - 1 := IntWalk.i64_in _ ⟨by omega, by omega⟩
  have t5 : IntKind.i64.wrap (W - 1) = W - 1 := IntWalk.i64_in _ ⟨by omega, by omega⟩
  clear hp' hc hx HX pl pW pH hcx hcy pa
  go_enter Try.func52, Try.ntmps52
  go_wp2_with fail
  refine wp_region_aft (by kernel_rfl) (by kernel_rfl) ?_
  repeat (go_big_quiet_step (first | (go_at_call_of 67 x; exact Calls.aft (T2.out _)) | (go_at_call_of 67 y; exact Calls.aft (T1.out _))))
  refine wpQuiet_nil ?_
  rintro _ ⟨⟨w7, qq⟩, rfl⟩
  go_wp2_with fail
  go_ret
  exact ⟨rfl, q0.trans qq⟩
end Go.Proofs.Ytoipcfpbkjanhaa
