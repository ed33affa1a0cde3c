/-
  What the functions on colors compute: ToLuma and FromLuma, of the program and of the reference.
-/
import Derived.Test.YtnmegieibcmhcaaProg
import Derived.Test.YtnmegieibcmhcaaLib
import Derived.Test.YtnmegieibcmhcaaSmall
import Derived.Deep.RegionHeld3
namespace Go.Proofs.Ytnmegieibcmhcaa
open Go.RowKit

def inB (n : Int) : Prop := 0 ≤ n ∧ n ≤ 255
instance (n : Int) : Decidable (inB n) := by unfold inB; infer_instance
def isCol (a b c : Int) : Prop := inB a ∧ inB b ∧ inB c
instance (a b c : Int) : Decidable (isCol a b c) := by unfold isCol; infer_instance
def lumT (a c : Int) : Int := c + (a - c) / 2
def lumY (a b c : Int) : Int := lumT a c + (b - lumT a c) / 2
def colV (a b c : Int) : Value := .agg #[.int .i64 a, .int .i64 b, .int .i64 c]
def lumV (a b c : Int) : Value := if isCol a b c then colV (lumY a b c) (a - c) (b - lumT a c) else colV 0 0 0


theorem luma (a b c : Int) (w : World) (h : isCol a b c) :
    Calls Try.prog 53 #[colV a b c] w fun e w' => e = .returned (colV (lumY a b c) (a - c) (b - lumT a c)) ∧ Q w w' := by
  obtain ⟨⟨h1, h2⟩, ⟨h3, h4⟩, h5, h6⟩ := h
  unfold lumY lumT colV
  have hs : ∀ n : Int, n >>> 1 = n / 2 := fun n => by rw [Int.shiftRight_eq_div_pow]; rfl
  go_enter Try.func53, Try.ntmps53
  go_wp2
  exact bodyPost_ret (v := .agg #[.int .i64 (c + (a - c) / 2 + (b - (c + (a - c) / 2)) / 2), .int .i64 (a - c), .int .i64 (b - (c + (a - c) / 2))]) (by simp [results, Try.results53, go_sem]) rfl ⟨rfl, (by repeat (first | exact Q.refl _ | assumption | refine Q.drewN ?_ _ | refine Q.drew ?_ | refine Q.alloc ?_ _ | refine Q.trans ?_ (by assumption) | refine Q.set ?_ (by first | exact Nat.le_refl _ | omega | (simp; done) | (simp; omega)) _))⟩

theorem isColor_b (a b c : Int) (t : Bool) (w : World) (h : Hid (decide (isCol a b c) = t)) :
    Calls Try.prog 52 #[colV a b c] w fun e w' => e = .returned (.bool t) ∧ Q w w' := by
  obtain rfl := h.out
  unfold colV
  by_cases ha : inB a
  · by_cases hb : inB b
    · have e : decide (isCol a b c) = decide (inB c) := by unfold isCol; simp [ha, hb]
      rw [e]
      have Ha := hid_ _ (decide_eq_true ha)
      have Hb := hid_ _ (decide_eq_true hb)
      obtain ⟨t, hg⟩ : ∃ t, decide (inB c) = t := ⟨_, rfl⟩
      rw [hg]
      have Hc := hid_ _ hg
      clear ha hb e hg h
      go_enter Try.func52, Try.ntmps52
      go_wp2_with fail
      refine (sampleValid_b _ _ _ Ha).mono ?_; rintro e w' ⟨rfl, rfl⟩
      go_wp2_with fail
      refine (sampleValid_b _ _ _ Hb).mono ?_; rintro e w' ⟨rfl, rfl⟩
      go_wp2_with fail
      refine (sampleValid_b _ _ _ Hc).mono ?_; rintro e w' ⟨rfl, rfl⟩
      go_wp2_with fail
      go_ret; exact ⟨rfl, (by repeat (first | exact Q.refl _ | assumption | refine Q.drewN ?_ _ | refine Q.drew ?_ | refine Q.alloc ?_ _ | refine Q.trans ?_ (by assumption) | refine Q.set ?_ (by first | exact Nat.le_refl _ | omega | (simp; done) | (simp; omega)) _))⟩
    · have e : decide (isCol a b c) = false := by unfold isCol; simp [hb]
      rw [e]
      have Ha := hid_ _ (decide_eq_true ha)
      have Hb := hid_ _ (decide_eq_false hb)
      clear ha hb e h
      go_enter Try.func52, Try.ntmps52
      go_wp2_with fail
      refine (sampleValid_b _ _ _ Ha).mono ?_; rintro e w' ⟨rfl, rfl⟩
      go_wp2_with fail
      refine (sampleValid_b _ _ _ Hb).mono ?_; rintro e w' ⟨rfl, rfl⟩
      go_wp2_with fail
      go_ret; exact ⟨rfl, (by repeat (first | exact Q.refl _ | assumption | refine Q.drewN ?_ _ | refine Q.drew ?_ | refine Q.alloc ?_ _ | refine Q.trans ?_ (by assumption) | refine Q.set ?_ (by first | exact Nat.le_refl _ | omega | (simp; done) | (simp; omega)) _))⟩
  · have e : decide (isCol a b c) = false := by unfold isCol; simp [ha]
    rw [e]
    have Ha := hid_ _ (decide_eq_false ha)
    clear ha e h
    go_enter Try.func52, Try.ntmps52
    go_wp2_with fail
    refine (sampleValid_b _ _ _ Ha).mono ?_; rintro e w' ⟨rfl, rfl⟩
    go_wp2_with fail
    go_ret; exact ⟨rfl, (by repeat (first | exact Q.refl _ | assumption | refine Q.drewN ?_ _ | refine Q.drew ?_ | refine Q.alloc ?_ _ | refine Q.trans ?_ (by assumption) | refine Q.set ?_ (by first | exact Nat.le_refl _ | omega | (simp; done) | (simp; omega)) _))⟩

set_option maxHeartbeats 1000000 in
theorem impl_ToLuma (a b c : Int) (w : World) :
    Calls Try.prog 16 #[colV a b c] w fun e w' => e = .returned (lumV a b c) ∧ Q w w' := by
  unfold lumV
  by_cases h : isCol a b c
  · rw [if_pos h]
    have H1 := hid_ _ (decide_eq_true h)
    have H := hid_ _ h
    clear h
    unfold colV
    go_enter Try.func16, Try.ntmps16
    go_wp2_with fail
    refine (isColor_b _ _ _ _ _ H1).mono ?_; rintro e w1 ⟨rfl, hq⟩
    have b1 := ((Blk.new _ _ _).alloc _).q hq
    have b2 := (Blk.new _ _ _).q hq
    rw [World.size_alloc] at b2
    have c1 := b1.cell; have c2 := b2.cell; have f2 := b2.free
    go_wp2_with fail
    refine (luma _ _ _ _ H.out).mono ?_; unfold colV; rintro e w2 ⟨rfl, hq2⟩
    have b3 := b2.q hq2
    have c3 := b3.cell; have f3 := b3.free
    go_wp2_with fail
    exact bodyPost_ret (v := .agg #[.int .i64 (lumY a b c), .int .i64 (a - c), .int .i64 (b - lumT a c)]) (by simp [results, Try.results16, go_sem, c3]) rfl ⟨rfl, (by repeat (first | exact Q.refl _ | assumption | refine Q.drewN ?_ _ | refine Q.drew ?_ | refine Q.alloc ?_ _ | refine Q.trans ?_ (by assumption) | refine Q.set ?_ (by first | exact Nat.le_refl _ | omega | (simp; done) | (simp; omega)) _))⟩
  · rw [if_neg h]
    have H1 := hid_ _ (decide_eq_false h)
    clear h
    unfold colV
    go_enter Try.func16, Try.ntmps16
    go_wp2_with fail
    refine (isColor_b _ _ _ _ _ H1).mono ?_; rintro e w1 ⟨rfl, hq⟩
    have b1 := ((Blk.new _ _ _).alloc _).q hq
    have b2 := (Blk.new _ _ _).q hq
    rw [World.size_alloc] at b2
    have c1 := b1.cell; have c2 := b2.cell; have f2 := b2.free
    go_wp2_with fail
    exact bodyPost_ret (v := .agg #[.int .i64 0, .int .i64 0, .int .i64 0]) (by simp [results, Try.results16, go_sem, c2]) rfl ⟨rfl, (by repeat (first | exact Q.refl _ | assumption | refine Q.drewN ?_ _ | refine Q.drew ?_ | refine Q.alloc ?_ _ | refine Q.trans ?_ (by assumption) | refine Q.set ?_ (by first | exact Nat.le_refl _ | omega | (simp; done) | (simp; omega)) _))⟩

set_option maxHeartbeats 1000000 in
theorem spec_ToLuma (a b c : Int) (w : World) :
    Calls Try.prog 17 #[colV a b c] w fun e w' => e = .returned (lumV a b c) ∧ Q w w' := by
  unfold lumV
  by_cases h : isCol a b c
  · rw [if_pos h]
    obtain ⟨⟨h1, h2⟩, ⟨h3, h4⟩, h5, h6⟩ := h
    unfold colV lumY lumT
    go_enter Try.func17, Try.ntmps17
    go_wp2_with (first | (go_at_call 54; refine (l1In_tt _ _ _ _ (by omega) (by omega)).mono ?_; rintro e w' ⟨rfl, rfl⟩))
    go_quiet ((go_at_call 55; exact Calls.quiet_of_same ((l7Floor _ _ _ (by omega) (by omega) (by omega) (by omega)).mono fun _ _ h => ⟨h.1, h.2.symm⟩)))
    go_wp2_with fail
    refine (l7Floor _ _ _ (by omega) (by omega) (by omega) (by omega)).mono ?_; rintro e w' ⟨rfl, rfl⟩
    go_wp2_with fail
    exact bodyPost_ret (v := .agg #[.int .i64 (c + (a - c) / 2 + (b - (c + (a - c) / 2)) / 2), .int .i64 (a - c), .int .i64 (b - (c + (a - c) / 2))]) (by simp [results, Try.results17, go_sem]) rfl ⟨rfl, (by repeat (first | exact Q.refl _ | assumption | refine Q.drewN ?_ _ | refine Q.drew ?_ | refine Q.alloc ?_ _ | refine Q.trans ?_ (by assumption) | refine Q.set ?_ (by first | exact Nat.le_refl _ | omega | (simp; done) | (simp; omega)) _))⟩
  · rw [if_neg h]
    unfold colV
    by_cases ha : inB a
    · have Ha := hid_ _ (decide_eq_true ha)
      by_cases hb : inB b
      · have hc : ¬ inB c := fun hc => h ⟨ha, hb, hc⟩
        have Hb := hid_ _ (decide_eq_true hb)
        have Hc := hid_ _ (decide_eq_false hc)
        clear ha hb hc h
        go_enter Try.func17, Try.ntmps17
        go_wp2_with fail
        refine (l1In_b _ _ _ _ _ Ha).mono ?_; rintro e w' ⟨rfl, rfl⟩
        go_wp2_with fail
        refine (l1In_b _ _ _ _ _ Hb).mono ?_; rintro e w' ⟨rfl, rfl⟩
        go_wp2_with fail
        refine (l1In_b _ _ _ _ _ Hc).mono ?_; rintro e w' ⟨rfl, rfl⟩
        go_wp2_with fail
        exact bodyPost_ret (v := .agg #[.int .i64 0, .int .i64 0, .int .i64 0]) (by simp [results, Try.results17, go_sem]) rfl ⟨rfl, (by repeat (first | exact Q.refl _ | assumption | refine Q.drewN ?_ _ | refine Q.drew ?_ | refine Q.alloc ?_ _ | refine Q.trans ?_ (by assumption) | refine Q.set ?_ (by first | exact Nat.le_refl _ | omega | (simp; done) | (simp; omega)) _))⟩
      · have Hb := hid_ _ (decide_eq_false hb)
        clear ha hb h
        go_enter Try.func17, Try.ntmps17
        go_wp2_with fail
        refine (l1In_b _ _ _ _ _ Ha).mono ?_; rintro e w' ⟨rfl, rfl⟩
        go_wp2_with fail
        refine (l1In_b _ _ _ _ _ Hb).mono ?_; rintro e w' ⟨rfl, rfl⟩
        go_wp2_with fail
        exact bodyPost_ret (v := .agg #[.int .i64 0, .int .i64 0, .int .i64 0]) (by simp [results, Try.results17, go_sem]) rfl ⟨rfl, (by repeat (first | exact Q.refl _ | assumption | refine Q.drewN ?_ _ | refine Q.drew ?_ | refine Q.alloc ?_ _ | refine Q.trans ?_ (by assumption) | refine Q.set ?_ (by first | exact Nat.le_refl _ | omega | (simp; done) | (simp; omega)) _))⟩
    · have Ha := hid_ _ (decide_eq_false ha)
      clear ha h
      go_enter Try.func17, Try.ntmps17
      go_wp2_with fail
      refine (l1In_b _ _ _ _ _ Ha).mono ?_; rintro e w' ⟨rfl, rfl⟩
      go_wp2_with fail
      exact bodyPost_ret (v := .agg #[.int .i64 0, .int .i64 0, .int .i64 0]) (by simp [results, Try.results17, go_sem]) rfl ⟨rfl, (by repeat (first | exact Q.refl _ | assumption | refine Q.drewN ?_ _ | refine Q.drew ?_ | refine Q.alloc ?_ _ | refine Q.trans ?_ (by assumption) | refine Q.set ?_ (by first | exact Nat.le_refl _ | omega | (simp; done) | (simp; omega)) _))⟩

end Go.Proofs.Ytnmegieibcmhcaa
