/-
  HalfSize of the reference, whatever its argument.
-/
import Derived.Test.YtoipcfpbkjanhaaSiz5
namespace Go.Proofs.Ytoipcfpbkjanhaa
open Go.RowKit

set_option maxRecDepth 100000 in
set_option maxHeartbeats 4000000 in
theorem spec_Half_no (W H : Int) (A : Option Addr) (m c B : Nat) (xs : List Int) (w : World) (hx : Rd w B A xs) (hB : B ≤ w.heap.size) (hn : Hid (xs.length = m)) (hm : m ≤ 9223372036854775807) (hs : Hid (picB W H xs = false ∨ W % 16 ≠ 0 ∨ H % 16 ≠ 0)) :
    Calls Try.prog 27 #[.agg #[.int .i64 W, .int .i64 H, .slice A m c]] w fun e w' => e = .returned (.agg #[.int .i64 0, .int .i64 0, .slice none 0 0]) ∧ Q w w' := by
  have q0 : Q w ((w.alloc (.cells #[.int .i64 W, .int .i64 H, .slice A m c] 27)).alloc (.cells #[.int .i64 0, .int .i64 0, .slice none 0 0] 27)) := (by repeat (first | exact Q.refl _ | assumption | refine Q.drewN ?_ _ | refine Q.drew ?_ | refine Q.alloc ?_ _ | refine Q.trans ?_ (by assumption) | refine Q.set ?_ (by first | exact Nat.le_refl _ | omega | (simp; done) | (simp; omega)) _))
  have b0 := (Blk.new w 27 #[.int .i64 W, .int .i64 H, .slice A m c]).alloc (.cells #[.int .i64 0, .int .i64 0, .slice none 0 0] 27)
  have r0 := Blk.new (w.alloc (.cells #[.int .i64 W, .int .i64 H, .slice A m c] 27)) 27 #[.int .i64 0, .int .i64 0, .slice none 0 0]
  rw [World.size_alloc] at r0
  have s0 := q0.size
  have HX := Lib.hid (hx.q q0 hB)
  clear hx
  cases hp : picB W H xs
  · have HP := Lib.hid hp
    clear hp hs
    go_enter Try.func27, Try.ntmps27
    go_wp2_with fail
    refine (spec_PictureValid W H A m c _ xs false _ HX.out (by omega) hn hm HP).mono ?_; rintro e w1 ⟨rfl, q1⟩
    have bc := (b0.q q1).cell
    (have r4 := (r0.q q1).cell; have f4 := (r0.q q1).free; go_wp2_with fail; refine bodyPost_ret (v := .agg #[.int .i64 0, .int .i64 0, .slice none 0 0]) (by simp [results, Try.results27, go_sem, r4]) rfl ⟨rfl, ?_⟩; have hq := q0.trans q1; exact (by repeat (first | exact Q.refl _ | assumption | refine Q.drewN ?_ _ | refine Q.drew ?_ | refine Q.alloc ?_ _ | refine Q.trans ?_ (by assumption) | refine Q.set ?_ (by first | exact Nat.le_refl _ | omega | (simp; done) | (simp; omega)) _)))
  · have HP := Lib.hid hp
    obtain ⟨pW, pH, _, _⟩ := picB_parts hp
    have hs2 : W % 16 ≠ 0 ∨ H % 16 ≠ 0 := by
      rcases hs.out with h | h
      · rw [hp] at h; cases h
      · exact h
    have p1 := pW.1
    have p2 := pW.2.1
    have p3 := pH.1
    have p4 := pH.2.1
    clear hp hs pW pH
    by_cases hw : W % 16 = 0
    · have hh : H % 16 ≠ 0 := by rcases hs2 with h | h; exact absurd hw h; exact h
      have e1 : (W % 16 != 0) = false := by rw [bne_eq_false_iff_eq]; exact hw
      have e2 : (H % 16 != 0) = true := by rw [bne_iff_ne]; exact hh
      clear hw hh hs2
      go_enter Try.func27, Try.ntmps27
      go_wp2_with fail
      refine (spec_PictureValid W H A m c _ xs true _ HX.out (by omega) hn hm HP).mono ?_; rintro e w1 ⟨rfl, q1⟩
      have bc := (b0.q q1).cell
      (have r4 := (r0.q q1).cell; have f4 := (r0.q q1).free; go_wp2_with fail; refine bodyPost_ret (v := .agg #[.int .i64 0, .int .i64 0, .slice none 0 0]) (by simp [results, Try.results27, go_sem, r4]) rfl ⟨rfl, ?_⟩; have hq := q0.trans q1; exact (by repeat (first | exact Q.refl _ | assumption | refine Q.drewN ?_ _ | refine Q.drew ?_ | refine Q.alloc ?_ _ | refine Q.trans ?_ (by assumption) | refine Q.set ?_ (by first | exact Nat.le_refl _ | omega | (simp; done) | (simp; omega)) _)))
    · have e1 : (W % 16 != 0) = true := by rw [bne_iff_ne]; exact hw
      clear hw hs2
      go_enter Try.func27, Try.ntmps27
      go_wp2_with fail
      refine (spec_PictureValid W H A m c _ xs true _ HX.out (by omega) hn hm HP).mono ?_; rintro e w1 ⟨rfl, q1⟩
      have bc := (b0.q q1).cell
      (have r4 := (r0.q q1).cell; have f4 := (r0.q q1).free; go_wp2_with fail; refine bodyPost_ret (v := .agg #[.int .i64 0, .int .i64 0, .slice none 0 0]) (by simp [results, Try.results27, go_sem, r4]) rfl ⟨rfl, ?_⟩; have hq := q0.trans q1; exact (by repeat (first | exact Q.refl _ | assumption | refine Q.drewN ?_ _ | refine Q.drew ?_ | refine Q.alloc ?_ _ | refine Q.trans ?_ (by assumption) | refine Q.set ?_ (by first | exact Nat.le_refl _ | omega | (simp; done) | (simp; omega)) _)))

theorem spec_HalfSize (W H : Int) (A : Option Addr) (n c B : Nat) (xs : List Int) (w : World) (hx : Rd w B A xs) (hB : B ≤ w.heap.size) (hn : Hid (xs.length = n)) (hm : n ≤ 9223372036854775807) :
    Calls Try.prog 27 #[.agg #[.int .i64 W, .int .i64 H, .slice A n c]] w fun e w' => ∃ v, e = .returned (.agg #[.int .i64 (halfP W H xs).1, .int .i64 (halfP W H xs).2.1, v]) ∧ Own w' w.heap.size v (halfP W H xs).2.2.length (halfP W H xs).2.2 ∧ Q w w' := by
  by_cases h : picB W H xs = true ∧ sideOk (W / 2) ∧ sideOk (H / 2)
  · rw [halfP, if_pos h]
    obtain ⟨hp, h1, h2⟩ := h
    have e1 : W / 2 = ((W / 2).toNat : Int) := by unfold sideOk at h1; omega
    have e2 : H / 2 = ((H / 2).toNat : Int) := by unfold sideOk at h2; omega
    refine (spec_Half_ok W H (W / 2).toNat (H / 2).toNat A n c B xs w hx hB hn hp e1 e2 (by rw [← e1]; exact h1) (by rw [← e2]; exact h2)).mono ?_
    rintro e w' ⟨v, rfl, o, q⟩
    refine ⟨v, by rw [← e1, ← e2], ?_, q⟩
    show Own w' w.heap.size v (pixL (hafF W H xs) (W / 2).toNat (H / 2).toNat).length _
    rw [length_pixL]; exact o
  · rw [halfP, if_neg h]
    refine (spec_Half_no W H A n c B xs w hx hB hn hm ?_).mono fun e w' ⟨he, hq⟩ => ⟨_, he, Own.nil _ _, hq⟩
    unfold Hid
    cases hp : picB W H xs
    · exact .inl rfl
    · obtain ⟨pW, pH, _, _⟩ := picB_parts hp
      refine .inr ?_
      unfold sideOk at h
      by_cases h1 : W % 16 = 0
      · by_cases h2 : H % 16 = 0
        · exact absurd ⟨hp, by omega, by omega⟩ h
        · exact .inr h2
      · exact .inl h1
end Go.Proofs.Ytoipcfpbkjanhaa
