/-
  Samples at half positions: the program's 'half' and the reference's.
-/
import Derived.Test.YtoipcfpbkjanhaaSmp
import Derived.Test.YtoipcfpbkjanhaaSmall
namespace Go.Proofs.Ytoipcfpbkjanhaa
open Go.RowKit

/-- the sample at the position (x, y) in half samples -/
def halfAt (W H : Int) (xs : List Int) (x y : Int) : Int :=
  if x % 2 = 0 then (if y % 2 = 0 then smpAt W H xs (x / 2) (y / 2) else (smpAt W H xs (x / 2) (y / 2) + smpAt W H xs (x / 2) (y / 2 + 1) + 1) / 2)
  else (if y % 2 = 0 then (smpAt W H xs (x / 2) (y / 2) + smpAt W H xs (x / 2 + 1) (y / 2) + 1) / 2
    else (smpAt W H xs (x / 2) (y / 2) + smpAt W H xs (x / 2 + 1) (y / 2) + smpAt W H xs (x / 2) (y / 2 + 1) + smpAt W H xs (x / 2 + 1) (y / 2 + 1) + 2) / 4)

set_option maxRecDepth 100000 in
set_option maxHeartbeats 4000000 in
theorem impl_half (W H x y : Int) (A : Option Addr) (n c B : Nat) (xs : List Int) (w : World) (hx : Rd w B A xs) (hB : B ≤ w.heap.size) (hn : Hid (xs.length = n)) (hp : Hid (picB W H xs = true)) (x1 : -1000000 ≤ x) (x2 : x ≤ 1000000) (y1 : -1000000 ≤ y) (y2 : y ≤ 1000000) :
    Calls Try.prog 57 #[.agg #[.int .i64 W, .int .i64 H, .slice A n c], .int .i64 x, .int .i64 y] w fun e w' => e = .returned (.int .i64 (halfAt W H xs x y)) ∧ Q w w' := by
  have q0 : Q w (w.alloc (.cells #[.int .i64 W, .int .i64 H, .slice A n c] 27)) := (by repeat (first | exact Q.refl _ | assumption | refine Q.drewN ?_ _ | refine Q.drew ?_ | refine Q.alloc ?_ _ | refine Q.trans ?_ (by assumption) | refine Q.set ?_ (by first | exact Nat.le_refl _ | omega | (simp; done) | (simp; omega)) _))
  have b0 := (Blk.new w 27 #[.int .i64 W, .int .i64 H, .slice A n c])
  have T : Hid (∀ (z : Aft (w.alloc (.cells #[.int .i64 W, .int .i64 H, .slice A n c] 27))) (u v : Int), Calls Try.prog 54 #[.agg #[.int .i64 W, .int .i64 H, .slice A n c], .int .i64 u, .int .i64 v] z.at_ fun e w' => e = .returned (.int .i64 (smpAt W H xs u v)) ∧ Q z.at_ w') := fun z u v => impl_at W H u v A n c B xs _ (hx.q (q0.trans z.q) hB) (Nat.le_trans hB (q0.trans z.q).size) hn hp
  have S : Hid (∀ u v, 0 ≤ smpAt W H xs u v ∧ smpAt W H xs u v ≤ 255) := fun u v => smp_in hp.out u v
  have ba := b0.aft
  have bc := b0.cell
  clear hx b0 hp
  obtain ⟨a, ha⟩ : ∃ a, x / 2 = a := ⟨_, rfl⟩
  obtain ⟨b, hb⟩ : ∃ b, y / 2 = b := ⟨_, rfl⟩
  have m0 : 0 ≤ smpAt W H xs a b ∧ smpAt W H xs a b ≤ 255 := S.out a b
  have m1 := S.out (a + 1) b
  have m2 := S.out a (b + 1)
  have m3 := S.out (a + 1) (b + 1)
  unfold halfAt
  rw [ha, hb]
  have T0 := Lib.hid (fun z => T.out z a b)
  have T1 := Lib.hid (fun z => T.out z (a + 1) b)
  have T2 := Lib.hid (fun z => T.out z a (b + 1))
  have T3 := Lib.hid (fun z => T.out z (a + 1) (b + 1))
  generalize smpAt W H xs a b = s0 at m0 T0 ⊢
  generalize smpAt W H xs (a + 1) b = s1 at m1 T1 ⊢
  generalize smpAt W H xs a (b + 1) = s2 at m2 T2 ⊢
  generalize smpAt W H xs (a + 1) (b + 1) = s3 at m3 T3 ⊢
  obtain ⟨a1, ha1⟩ : ∃ a1, a + 1 = a1 := ⟨_, rfl⟩
  obtain ⟨b1, hb1⟩ : ∃ b1, b + 1 = b1 := ⟨_, rfl⟩
  rw [ha1] at T1 T3
  rw [hb1] at T2 T3
  clear T S
  have w1 : IntKind.i64.wrap (s0 + s1) = s0 + s1 := IntWalk.i64_in _ ⟨by omega, by omega⟩
  have w2 : IntKind.i64.wrap (s0 + s2) = s0 + s2 := IntWalk.i64_in _ ⟨by omega, by omega⟩
  have w3 : IntKind.i64.wrap (s0 + s1 + 1) = s0 + s1 + 1 := IntWalk.i64_in _ ⟨by omega, by omega⟩
  have w4 : IntKind.i64.wrap (s0 + s2 + 1) = s0 + s2 + 1 := IntWalk.i64_in _ ⟨by omega, by omega⟩
  have w5 : IntKind.i64.wrap (s0 + s1 + s2) = s0 + s1 + s2 := IntWalk.i64_in _ ⟨by omega, by omega⟩
  have w6 : IntKind.i64.wrap (s0 + s1 + s2 + s3) = s0 + s1 + s2 + s3 := IntWalk.i64_in _ ⟨by omega, by omega⟩
  have w7 : IntKind.i64.wrap (s0 + s1 + s2 + s3 + 2) = s0 + s1 + s2 + s3 + 2 := IntWalk.i64_in _ ⟨by omega, by omega⟩
  have d1 : (s0 + s1 + 1).tdiv 2 = (s0 + s1 + 1) / 2 := Int.tdiv_eq_ediv_of_nonneg (by omega)
  have d2 : (s0 + s2 + 1).tdiv 2 = (s0 + s2 + 1) / 2 := Int.tdiv_eq_ediv_of_nonneg (by omega)
  have d3 : (s0 + s1 + s2 + s3 + 2).tdiv 4 = (s0 + s1 + s2 + s3 + 2) / 4 := Int.tdiv_eq_ediv_of_nonneg (by omega)
  have g1 : IntKind.i64.wrap ((s0 + s1 + 1) / 2) = (s0 + s1 + 1) / 2 := IntWalk.i64_in _ ⟨by omega, by omega⟩
  have g2 : IntKind.i64.wrap ((s0 + s2 + 1) / 2) = (s0 + s2 + 1) / 2 := IntWalk.i64_in _ ⟨by omega, by omega⟩
  have g3 : IntKind.i64.wrap ((s0 + s1 + s2 + s3 + 2) / 4) = (s0 + s1 + s2 + s3 + 2) / 4 := IntWalk.i64_in _ ⟨by omega, by omega⟩
  by_cases hx0 : x % 2 = 0
  all_goals by_cases hy0 : y % 2 = 0
  · rw [if_pos hx0, if_pos hy0]
    have e1 : (x + 1) / 2 = a := by omega
    have e2 : (y + 1) / 2 = b := by omega
    clear hx0 hy0 ha1 hb1
    go_enter Try.func57, Try.ntmps57
    go_wp2_with fail
    refine (T0.out ⟨_, Q.refl _⟩).mono ?_; rintro e w7 ⟨rfl, qq⟩
    go_wp2_with fail
    go_ret
    exact ⟨rfl, q0.trans qq⟩
  · rw [if_pos hx0, if_neg hy0]
    have e1 : (x + 1) / 2 = a := by omega
    have e2 : (y + 1) / 2 = b1 := by omega
    have e4 : (b == b1) = false := by rw [beq_eq_false_iff_ne]; omega
    clear hx0 hy0 ha1 hb1
    go_enter Try.func57, Try.ntmps57
    go_wp2_with fail
    refine wp_region_aft (by kernel_rfl) (by kernel_rfl) ?_
    repeat (go_big_quiet_step (first | (go_at_call_of 54 a1; go_at_call_of 54 b1; with_reducible exact Calls.aft (T3.out _)) | (go_at_call_of 54 a1; with_reducible exact Calls.aft (T1.out _)) | (go_at_call_of 54 b1; with_reducible exact Calls.aft (T2.out _)) | (go_at_call_of 54 a; with_reducible exact Calls.aft (T0.out _))))
    refine wpQuiet_nil ?_
    rintro _ ⟨⟨w7, qq⟩, rfl⟩
    go_wp2_with fail
    go_ret
    exact ⟨rfl, q0.trans qq⟩
  · rw [if_neg hx0, if_pos hy0]
    have e1 : (x + 1) / 2 = a1 := by omega
    have e2 : (y + 1) / 2 = b := by omega
    have e3 : (a == a1) = false := by rw [beq_eq_false_iff_ne]; omega
    clear hx0 hy0 ha1 hb1
    go_enter Try.func57, Try.ntmps57
    go_wp2_with fail
    refine wp_region_aft (by kernel_rfl) (by kernel_rfl) ?_
    repeat (go_big_quiet_step (first | (go_at_call_of 54 a1; go_at_call_of 54 b1; with_reducible exact Calls.aft (T3.out _)) | (go_at_call_of 54 a1; with_reducible exact Calls.aft (T1.out _)) | (go_at_call_of 54 b1; with_reducible exact Calls.aft (T2.out _)) | (go_at_call_of 54 a; with_reducible exact Calls.aft (T0.out _))))
    refine wpQuiet_nil ?_
    rintro _ ⟨⟨w7, qq⟩, rfl⟩
    go_wp2_with fail
    go_ret
    exact ⟨rfl, q0.trans qq⟩
  · rw [if_neg hx0, if_neg hy0]
    have e1 : (x + 1) / 2 = a1 := by omega
    have e2 : (y + 1) / 2 = b1 := by omega
    have e3 : (a == a1) = false := by rw [beq_eq_false_iff_ne]; omega
    have e4 : (b == b1) = false := by rw [beq_eq_false_iff_ne]; omega
    clear hx0 hy0 ha1 hb1
    go_enter Try.func57, Try.ntmps57
    go_wp2_with fail
    refine wp_region_aft (by kernel_rfl) (by kernel_rfl) ?_
    repeat (go_big_quiet_step (first | (go_at_call_of 54 a1; go_at_call_of 54 b1; with_reducible exact Calls.aft (T3.out _)) | (go_at_call_of 54 a1; with_reducible exact Calls.aft (T1.out _)) | (go_at_call_of 54 b1; with_reducible exact Calls.aft (T2.out _)) | (go_at_call_of 54 a; with_reducible exact Calls.aft (T0.out _))))
    refine wpQuiet_nil ?_
    rintro _ ⟨⟨w7, qq⟩, rfl⟩
    go_wp2_with fail
    go_ret
    exact ⟨rfl, q0.trans qq⟩
theorem tmod2 (x : Int) : x.tmod 2 = 0 ↔ x % 2 = 0 := by rw [← Int.dvd_iff_tmod_eq_zero, Int.dvd_iff_emod_eq_zero]
set_option maxRecDepth 100000 in
set_option maxHeartbeats 4000000 in
theorem spec_half (W H x y : Int) (A : Option Addr) (n c B : Nat) (xs : List Int) (w : World) (hx : Rd w B A xs) (hB : B ≤ w.heap.size) (hn : Hid (xs.length = n)) (hp : Hid (picB W H xs = true)) (x1 : -1000000 ≤ x) (x2 : x ≤ 1000000) (y1 : -1000000 ≤ y) (y2 : y ≤ 1000000) :
    Calls Try.prog 56 #[.agg #[.int .i64 W, .int .i64 H, .slice A n c], .int .i64 x, .int .i64 y] w fun e w' => e = .returned (.int .i64 (halfAt W H xs x y)) ∧ Q w w' := by
  have q0 : Q w (w.alloc (.cells #[.int .i64 W, .int .i64 H, .slice A n c] 27)) := (by repeat (first | exact Q.refl _ | assumption | refine Q.drewN ?_ _ | refine Q.drew ?_ | refine Q.alloc ?_ _ | refine Q.trans ?_ (by assumption) | refine Q.set ?_ (by first | exact Nat.le_refl _ | omega | (simp; done) | (simp; omega)) _))
  have b0 := (Blk.new w 27 #[.int .i64 W, .int .i64 H, .slice A n c])
  have T : Hid (∀ (z : Aft (w.alloc (.cells #[.int .i64 W, .int .i64 H, .slice A n c] 27))) (u v : Int), Calls Try.prog 52 #[.agg #[.int .i64 W, .int .i64 H, .slice A n c], .int .i64 u, .int .i64 v] z.at_ fun e w' => e = .returned (.int .i64 (smpAt W H xs u v)) ∧ Q z.at_ w') := fun z u v => spec_at W H u v A n c B xs _ (hx.q (q0.trans z.q) hB) (Nat.le_trans hB (q0.trans z.q).size) hn hp
  have S : Hid (∀ u v, 0 ≤ smpAt W H xs u v ∧ smpAt W H xs u v ≤ 255) := fun u v => smp_in hp.out u v
  have ba := b0.aft
  have bc := b0.cell
  clear hx hp
  obtain ⟨a, ha⟩ : ∃ a, x / 2 = a := ⟨_, rfl⟩
  obtain ⟨b, hb⟩ : ∃ b, y / 2 = b := ⟨_, rfl⟩
  have m0 : 0 ≤ smpAt W H xs a b ∧ smpAt W H xs a b ≤ 255 := S.out a b
  have m1 := S.out (a + 1) b
  have m2 := S.out a (b + 1)
  have m3 := S.out (a + 1) (b + 1)
  unfold halfAt
  rw [ha, hb]
  have T0 := Lib.hid (fun z => T.out z a b)
  have T1 := Lib.hid (fun z => T.out z (a + 1) b)
  have T2 := Lib.hid (fun z => T.out z a (b + 1))
  have T3 := Lib.hid (fun z => T.out z (a + 1) (b + 1))
  generalize smpAt W H xs a b = s0 at m0 T0 ⊢
  generalize smpAt W H xs (a + 1) b = s1 at m1 T1 ⊢
  generalize smpAt W H xs a (b + 1) = s2 at m2 T2 ⊢
  generalize smpAt W H xs (a + 1) (b + 1) = s3 at m3 T3 ⊢
  obtain ⟨a1, ha1⟩ : ∃ a1, a + 1 = a1 := ⟨_, rfl⟩
  obtain ⟨b1, hb1⟩ : ∃ b1, b + 1 = b1 := ⟨_, rfl⟩
  rw [ha1] at T1 T3
  rw [hb1] at T2 T3
  clear T S
  have w1 : IntKind.i64.wrap (s0 + s1) = s0 + s1 := IntWalk.i64_in _ ⟨by omega, by omega⟩
  have w2 : IntKind.i64.wrap (s0 + s2) = s0 + s2 := IntWalk.i64_in _ ⟨by omega, by omega⟩
  have w3 : IntKind.i64.wrap (s0 + s1 + 1) = s0 + s1 + 1 := IntWalk.i64_in _ ⟨by omega, by omega⟩
  have w4 : IntKind.i64.wrap (s0 + s2 + 1) = s0 + s2 + 1 := IntWalk.i64_in _ ⟨by omega, by omega⟩
  have w5 : IntKind.i64.wrap (s0 + s1 + s2) = s0 + s1 + s2 := IntWalk.i64_in _ ⟨by omega, by omega⟩
  have w6 : IntKind.i64.wrap (s0 + s1 + s2 + s3) = s0 + s1 + s2 + s3 := IntWalk.i64_in _ ⟨by omega, by omega⟩
  have w7 : IntKind.i64.wrap (s0 + s1 + s2 + s3 + 2) = s0 + s1 + s2 + s3 + 2 := IntWalk.i64_in _ ⟨by omega, by omega⟩
  have d1 : (s0 + s1 + 1).tdiv 2 = (s0 + s1 + 1) / 2 := Int.tdiv_eq_ediv_of_nonneg (by omega)
  have d2 : (s0 + s2 + 1).tdiv 2 = (s0 + s2 + 1) / 2 := Int.tdiv_eq_ediv_of_nonneg (by omega)
  have d3 : (s0 + s1 + s2 + s3 + 2).tdiv 4 = (s0 + s1 + s2 + s3 + 2) / 4 := Int.tdiv_eq_ediv_of_nonneg (by omega)
  have g1 : IntKind.i64.wrap ((s0 + s1 + 1) / 2) = (s0 + s1 + 1) / 2 := IntWalk.i64_in _ ⟨by omega, by omega⟩
  have g2 : IntKind.i64.wrap ((s0 + s2 + 1) / 2) = (s0 + s2 + 1) / 2 := IntWalk.i64_in _ ⟨by omega, by omega⟩
  have g3 : IntKind.i64.wrap ((s0 + s1 + s2 + s3 + 2) / 4) = (s0 + s1 + s2 + s3 + 2) / 4 := IntWalk.i64_in _ ⟨by omega, by omega⟩
  have t2x := tmod2 x
  have t2y := tmod2 y
  have F1 := Lib.hid (fun w => l7Floor x 2 w (by omega) (by omega) (by omega) (by omega))
  have F2 := Lib.hid (fun w => l7Floor y 2 w (by omega) (by omega) (by omega) (by omega))
  rw [ha] at F1
  rw [hb] at F2
  by_cases hx0 : x % 2 = 0
  all_goals by_cases hy0 : y % 2 = 0
  · rw [if_pos hx0, if_pos hy0]
    have ex : (x.tmod 2 == 0) = true := by rw [beq_iff_eq]; exact t2x.2 hx0
    have ey : (y.tmod 2 == 0) = true := by rw [beq_iff_eq]; exact t2y.2 hy0
    have c1 : IntKind.i64.wrap (a + 1) = a1 := by rw [← ha1]; exact IntWalk.i64_in _ ⟨by omega, by omega⟩
    have c2 : IntKind.i64.wrap (b + 1) = b1 := by rw [← hb1]; exact IntWalk.i64_in _ ⟨by omega, by omega⟩
    clear hx0 hy0 t2x t2y ha hb
    have A1 := Lib.hid ha1
    have B1 := Lib.hid hb1
    clear ha1 hb1
    go_enter Try.func56, Try.ntmps56
    go_wp2_with fail
    refine (F1.out _).mono ?_; rintro e w' ⟨rfl, rfl⟩
    go_wp2_with fail
    refine (F2.out _).mono ?_; rintro e w' ⟨rfl, rfl⟩
    go_wp2_with fail
    refine (T0.out ⟨_, Q.refl _⟩).mono ?_; rintro e w7 ⟨rfl, qq⟩
    have QQ := q0.trans qq
    go_wp2_with fail
    go_ret
    exact ⟨rfl, QQ⟩
  · rw [if_pos hx0, if_neg hy0]
    have ex : (x.tmod 2 == 0) = true := by rw [beq_iff_eq]; exact t2x.2 hx0
    have ey : (y.tmod 2 == 0) = false := by rw [beq_eq_false_iff_ne]; exact fun h => hy0 (t2y.1 h)
    have c1 : IntKind.i64.wrap (a + 1) = a1 := by rw [← ha1]; exact IntWalk.i64_in _ ⟨by omega, by omega⟩
    have c2 : IntKind.i64.wrap (b + 1) = b1 := by rw [← hb1]; exact IntWalk.i64_in _ ⟨by omega, by omega⟩
    clear hx0 hy0 t2x t2y ha hb
    have A1 := Lib.hid ha1
    have B1 := Lib.hid hb1
    clear ha1 hb1
    go_enter Try.func56, Try.ntmps56
    go_wp2_with fail
    refine (F1.out _).mono ?_; rintro e w' ⟨rfl, rfl⟩
    go_wp2_with fail
    refine (F2.out _).mono ?_; rintro e w' ⟨rfl, rfl⟩
    go_wp2_with fail
    refine (T0.out ⟨_, Q.refl _⟩).mono ?_; rintro e w7 ⟨rfl, qq⟩
    have QQ := q0.trans qq
    have bc := b0.qcell qq
    go_wp2_with fail
    refine (T2.out ⟨_, qq⟩).mono ?_; rintro e w8 ⟨rfl, q8⟩
    go_wp2_with fail
    go_ret
    exact ⟨rfl, QQ.trans q8⟩
  · rw [if_neg hx0, if_pos hy0]
    have ex : (x.tmod 2 == 0) = false := by rw [beq_eq_false_iff_ne]; exact fun h => hx0 (t2x.1 h)
    have ey : (y.tmod 2 == 0) = true := by rw [beq_iff_eq]; exact t2y.2 hy0
    have c1 : IntKind.i64.wrap (a + 1) = a1 := by rw [← ha1]; exact IntWalk.i64_in _ ⟨by omega, by omega⟩
    have c2 : IntKind.i64.wrap (b + 1) = b1 := by rw [← hb1]; exact IntWalk.i64_in _ ⟨by omega, by omega⟩
    clear hx0 hy0 t2x t2y ha hb
    have A1 := Lib.hid ha1
    have B1 := Lib.hid hb1
    clear ha1 hb1
    go_enter Try.func56, Try.ntmps56
    go_wp2_with fail
    refine (F1.out _).mono ?_; rintro e w' ⟨rfl, rfl⟩
    go_wp2_with fail
    refine (F2.out _).mono ?_; rintro e w' ⟨rfl, rfl⟩
    go_wp2_with fail
    refine (T0.out ⟨_, Q.refl _⟩).mono ?_; rintro e w7 ⟨rfl, qq⟩
    have QQ := q0.trans qq
    have bc := b0.qcell qq
    go_wp2_with fail
    refine (T1.out ⟨_, qq⟩).mono ?_; rintro e w8 ⟨rfl, q8⟩
    go_wp2_with fail
    go_ret
    exact ⟨rfl, QQ.trans q8⟩
  · rw [if_neg hx0, if_neg hy0]
    have ex : (x.tmod 2 == 0) = false := by rw [beq_eq_false_iff_ne]; exact fun h => hx0 (t2x.1 h)
    have ey : (y.tmod 2 == 0) = false := by rw [beq_eq_false_iff_ne]; exact fun h => hy0 (t2y.1 h)
    have c1 : IntKind.i64.wrap (a + 1) = a1 := by rw [← ha1]; exact IntWalk.i64_in _ ⟨by omega, by omega⟩
    have c2 : IntKind.i64.wrap (b + 1) = b1 := by rw [← hb1]; exact IntWalk.i64_in _ ⟨by omega, by omega⟩
    clear hx0 hy0 t2x t2y ha hb
    have A1 := Lib.hid ha1
    have B1 := Lib.hid hb1
    clear ha1 hb1
    go_enter Try.func56, Try.ntmps56
    go_wp2_with fail
    refine (F1.out _).mono ?_; rintro e w' ⟨rfl, rfl⟩
    go_wp2_with fail
    refine (F2.out _).mono ?_; rintro e w' ⟨rfl, rfl⟩
    go_wp2_with fail
    refine (T0.out ⟨_, Q.refl _⟩).mono ?_; rintro e w7 ⟨rfl, qq⟩
    have QQ := q0.trans qq
    have ba := fun (z : Aft w7) => b0.qcell (qq.trans z.q)
    have T1 := Lib.hid (fun (z : Aft w7) => T1.out ⟨z.at_, qq.trans z.q⟩)
    have T2 := Lib.hid (fun (z : Aft w7) => T2.out ⟨z.at_, qq.trans z.q⟩)
    have T3 := Lib.hid (fun (z : Aft w7) => T3.out ⟨z.at_, qq.trans z.q⟩)
    clear b0
    go_wp2_with fail
    refine wp_region_aft (by kernel_rfl) (by kernel_rfl) ?_
    repeat (go_big_quiet_step (first | (go_at_call_of 52 a1; go_at_call_of 52 b1; with_reducible exact Calls.aft (T3.out _)) | (go_at_call_of 52 a1; with_reducible exact Calls.aft (T1.out _)) | (go_at_call_of 52 b1; with_reducible exact Calls.aft (T2.out _)) | (go_at_call_of 52 a; with_reducible exact Calls.aft (T0.out _))))
    refine wpQuiet_nil ?_
    rintro _ ⟨⟨w8, q8⟩, rfl⟩
    go_wp2_with fail
    go_ret
    exact ⟨rfl, QQ.trans q8⟩
end Go.Proofs.Ytoipcfpbkjanhaa
