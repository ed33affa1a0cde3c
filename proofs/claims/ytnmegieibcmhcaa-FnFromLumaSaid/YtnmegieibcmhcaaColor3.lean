/-
  The reference's FromLuma: the same as the program's.
-/
import Derived.Test.YtnmegieibcmhcaaColor2
namespace Go.Proofs.Ytnmegieibcmhcaa
open Go.RowKit

def i64b (n : Int) : Prop := -9223372036854775808 ≤ n ∧ n ≤ 9223372036854775807
def inA (a : Int) : Prop := -255 ≤ a ∧ a ≤ 510
def inD (b : Int) : Prop := -255 ≤ b ∧ b ≤ 255

theorem col_plain {a b c : Int} (ha : inA a) (hb : inD b) (hc : inD c) : colT a c = a - c / 2 ∧ colB a b c = a - c / 2 - b / 2 ∧ colR a b c = a - c / 2 - b / 2 + b ∧ colG a c = c + (a - c / 2) := by
  obtain ⟨a1, a2⟩ := ha; obtain ⟨b1, b2⟩ := hb; obtain ⟨c1, c2⟩ := hc
  have h1 : colT a c = a - c / 2 := IntWalk.wrap64_in _ ⟨by omega, by omega⟩
  have h2 : colB a b c = a - c / 2 - b / 2 := by unfold colB; rw [h1]; exact IntWalk.wrap64_in _ ⟨by omega, by omega⟩
  have h3 : colR a b c = a - c / 2 - b / 2 + b := by unfold colR; rw [h2]; exact IntWalk.wrap64_in _ ⟨by omega, by omega⟩
  have h4 : colG a c = c + (a - c / 2) := by unfold colG; rw [h1]; exact IntWalk.wrap64_in _ ⟨by omega, by omega⟩
  exact ⟨h1, h2, h3, h4⟩

theorem from_range {a b c : Int} (h : fromOk a b c) : inA a ∧ inD b ∧ inD c := by
  obtain ⟨⟨⟨r1, r2⟩, ⟨g1, g2⟩, ⟨b1, b2⟩⟩, hy, hb, hc⟩ := h
  generalize colR a b c = R at *
  generalize colG a c = G at *
  generalize colB a b c = B at *
  unfold lumY lumT at *
  unfold inA inD
  omega

theorem from_col {a b c : Int} (ha : inA a) (hb : inD b) (hc : inD c) (h : isCol (colR a b c) (colG a c) (colB a b c)) : fromOk a b c := by
  obtain ⟨_, e2, e3, e4⟩ := col_plain ha hb hc
  refine ⟨h, ?_⟩
  rw [e2, e3, e4]
  unfold lumY lumT
  omega

theorem fromV_yes {a b c : Int} (ha : inA a) (hb : inD b) (hc : inD c) (h : inB (a - c / 2 - b / 2 + b) ∧ inB (c + (a - c / 2)) ∧ inB (a - c / 2 - b / 2)) :
    fromV a b c = .tuple #[colV (a - c / 2 - b / 2 + b) (c + (a - c / 2)) (a - c / 2 - b / 2), .bool true] := by
  obtain ⟨_, e2, e3, e4⟩ := col_plain ha hb hc
  unfold fromV
  rw [if_pos (from_col ha hb hc (by rw [e2, e3, e4]; exact h)), e2, e3, e4]
theorem fromV_no {a b c : Int} (ha : inA a) (hb : inD b) (hc : inD c) (h : ¬ (inB (a - c / 2 - b / 2 + b) ∧ inB (c + (a - c / 2)) ∧ inB (a - c / 2 - b / 2))) :
    fromV a b c = .tuple #[colV 0 0 0, .bool false] := by
  obtain ⟨_, e2, e3, e4⟩ := col_plain ha hb hc
  unfold fromV
  rw [if_neg (fun hf => h (by have := hf.1; rw [e2, e3, e4] at this; exact this))]
theorem fromV_out {a b c : Int} (h : ¬ (inA a ∧ inD b ∧ inD c)) : fromV a b c = .tuple #[colV 0 0 0, .bool false] := by
  unfold fromV
  rw [if_neg (fun hf => h (from_range hf))]

set_option maxHeartbeats 4000000 in
theorem spec_FromLuma (a b c : Int) (w : World) :
    Calls Try.prog 30 #[colV a b c] w fun e w' => e = .returned (fromV a b c) ∧ Q w w' := by
  by_cases ha : inA a
  · have Ha := mkT ha
    by_cases hb : inD b
    · have Hb := mkT hb
      by_cases hc : inD c
      · have Hc := mkT hc
        by_cases hx : inB (a - c / 2 - b / 2 + b)
        · have Hx := mkT hx
          by_cases hy : inB (c + (a - c / 2))
          · have Hy := mkT hy
            by_cases hz : inB (a - c / 2 - b / 2)
            · rw [fromV_yes ha hb hc ⟨hx, hy, hz⟩]
              have Hz := mkT hz
              clear hx hy hz
              (obtain ⟨a1, a2⟩ := ha; obtain ⟨b1, b2⟩ := hb; obtain ⟨c1, c2⟩ := hc; unfold colV; go_enter Try.func30, Try.ntmps30; go_wp2_with (first | (go_at_call 54; (with_reducible refine (l1In_b _ _ _ _ _ Ha).mono ?_); rintro e w' ⟨rfl, rfl⟩) | (go_at_call 54; (with_reducible refine (l1In_b _ _ _ _ _ Hb).mono ?_); rintro e w' ⟨rfl, rfl⟩) | (go_at_call 54; (with_reducible refine (l1In_b _ _ _ _ _ Hc).mono ?_); rintro e w' ⟨rfl, rfl⟩) | (go_at_call 54; (with_reducible refine (l1In_b _ _ _ _ _ Hx).mono ?_); rintro e w' ⟨rfl, rfl⟩) | (go_at_call 54; (with_reducible refine (l1In_b _ _ _ _ _ Hy).mono ?_); rintro e w' ⟨rfl, rfl⟩) | (go_at_call 54; (with_reducible refine (l1In_b _ _ _ _ _ Hz).mono ?_); rintro e w' ⟨rfl, rfl⟩) | (go_at_call 55; refine (l7Floor _ _ _ (by omega) (by omega) (by omega) (by omega)).mono ?_; rintro e w' ⟨rfl, rfl⟩)); go_quiet ((go_at_call 55; exact Calls.quiet_of_same ((l7Floor _ _ _ (by omega) (by omega) (by omega) (by omega)).mono fun _ _ h => ⟨h.1, h.2.symm⟩))); go_wp2_with (first | (go_at_call 54; (with_reducible refine (l1In_b _ _ _ _ _ Ha).mono ?_); rintro e w' ⟨rfl, rfl⟩) | (go_at_call 54; (with_reducible refine (l1In_b _ _ _ _ _ Hb).mono ?_); rintro e w' ⟨rfl, rfl⟩) | (go_at_call 54; (with_reducible refine (l1In_b _ _ _ _ _ Hc).mono ?_); rintro e w' ⟨rfl, rfl⟩) | (go_at_call 54; (with_reducible refine (l1In_b _ _ _ _ _ Hx).mono ?_); rintro e w' ⟨rfl, rfl⟩) | (go_at_call 54; (with_reducible refine (l1In_b _ _ _ _ _ Hy).mono ?_); rintro e w' ⟨rfl, rfl⟩) | (go_at_call 54; (with_reducible refine (l1In_b _ _ _ _ _ Hz).mono ?_); rintro e w' ⟨rfl, rfl⟩) | (go_at_call 55; refine (l7Floor _ _ _ (by omega) (by omega) (by omega) (by omega)).mono ?_; rintro e w' ⟨rfl, rfl⟩)))
              exact bodyPost_ret (v := .tuple #[.agg #[.int .i64 (a - c / 2 - b / 2 + b), .int .i64 (c + (a - c / 2)), .int .i64 (a - c / 2 - b / 2)], .bool true]) (by simp [results, Try.results30, go_sem]) rfl ⟨rfl, (by repeat (first | exact Q.refl _ | assumption | refine Q.drewN ?_ _ | refine Q.drew ?_ | refine Q.alloc ?_ _ | refine Q.trans ?_ (by assumption) | refine Q.set ?_ (by first | exact Nat.le_refl _ | omega | (simp; done) | (simp; omega)) _))⟩
            · rw [fromV_no ha hb hc (fun h => hz h.2.2)]
              have Hz := mkF hz
              clear hx hy hz
              (obtain ⟨a1, a2⟩ := ha; obtain ⟨b1, b2⟩ := hb; obtain ⟨c1, c2⟩ := hc; unfold colV; go_enter Try.func30, Try.ntmps30; go_wp2_with (first | (go_at_call 54; (with_reducible refine (l1In_b _ _ _ _ _ Ha).mono ?_); rintro e w' ⟨rfl, rfl⟩) | (go_at_call 54; (with_reducible refine (l1In_b _ _ _ _ _ Hb).mono ?_); rintro e w' ⟨rfl, rfl⟩) | (go_at_call 54; (with_reducible refine (l1In_b _ _ _ _ _ Hc).mono ?_); rintro e w' ⟨rfl, rfl⟩) | (go_at_call 54; (with_reducible refine (l1In_b _ _ _ _ _ Hx).mono ?_); rintro e w' ⟨rfl, rfl⟩) | (go_at_call 54; (with_reducible refine (l1In_b _ _ _ _ _ Hy).mono ?_); rintro e w' ⟨rfl, rfl⟩) | (go_at_call 54; (with_reducible refine (l1In_b _ _ _ _ _ Hz).mono ?_); rintro e w' ⟨rfl, rfl⟩) | (go_at_call 55; refine (l7Floor _ _ _ (by omega) (by omega) (by omega) (by omega)).mono ?_; rintro e w' ⟨rfl, rfl⟩)); go_quiet ((go_at_call 55; exact Calls.quiet_of_same ((l7Floor _ _ _ (by omega) (by omega) (by omega) (by omega)).mono fun _ _ h => ⟨h.1, h.2.symm⟩))); go_wp2_with (first | (go_at_call 54; (with_reducible refine (l1In_b _ _ _ _ _ Ha).mono ?_); rintro e w' ⟨rfl, rfl⟩) | (go_at_call 54; (with_reducible refine (l1In_b _ _ _ _ _ Hb).mono ?_); rintro e w' ⟨rfl, rfl⟩) | (go_at_call 54; (with_reducible refine (l1In_b _ _ _ _ _ Hc).mono ?_); rintro e w' ⟨rfl, rfl⟩) | (go_at_call 54; (with_reducible refine (l1In_b _ _ _ _ _ Hx).mono ?_); rintro e w' ⟨rfl, rfl⟩) | (go_at_call 54; (with_reducible refine (l1In_b _ _ _ _ _ Hy).mono ?_); rintro e w' ⟨rfl, rfl⟩) | (go_at_call 54; (with_reducible refine (l1In_b _ _ _ _ _ Hz).mono ?_); rintro e w' ⟨rfl, rfl⟩) | (go_at_call 55; refine (l7Floor _ _ _ (by omega) (by omega) (by omega) (by omega)).mono ?_; rintro e w' ⟨rfl, rfl⟩)))
              exact bodyPost_ret (v := .tuple #[.agg #[.int .i64 0, .int .i64 0, .int .i64 0], .bool false]) (by simp [results, Try.results30, go_sem]) rfl ⟨rfl, (by repeat (first | exact Q.refl _ | assumption | refine Q.drewN ?_ _ | refine Q.drew ?_ | refine Q.alloc ?_ _ | refine Q.trans ?_ (by assumption) | refine Q.set ?_ (by first | exact Nat.le_refl _ | omega | (simp; done) | (simp; omega)) _))⟩
          · rw [fromV_no ha hb hc (fun h => hy h.2.1)]
            have Hy := mkF hy
            clear hx hy
            (obtain ⟨a1, a2⟩ := ha; obtain ⟨b1, b2⟩ := hb; obtain ⟨c1, c2⟩ := hc; unfold colV; go_enter Try.func30, Try.ntmps30; go_wp2_with (first | (go_at_call 54; (with_reducible refine (l1In_b _ _ _ _ _ Ha).mono ?_); rintro e w' ⟨rfl, rfl⟩) | (go_at_call 54; (with_reducible refine (l1In_b _ _ _ _ _ Hb).mono ?_); rintro e w' ⟨rfl, rfl⟩) | (go_at_call 54; (with_reducible refine (l1In_b _ _ _ _ _ Hc).mono ?_); rintro e w' ⟨rfl, rfl⟩) | (go_at_call 54; (with_reducible refine (l1In_b _ _ _ _ _ Hx).mono ?_); rintro e w' ⟨rfl, rfl⟩) | (go_at_call 54; (with_reducible refine (l1In_b _ _ _ _ _ Hy).mono ?_); rintro e w' ⟨rfl, rfl⟩) | (go_at_call 54; (with_reducible refine (l1In_b _ _ _ _ _ Hz).mono ?_); rintro e w' ⟨rfl, rfl⟩) | (go_at_call 55; refine (l7Floor _ _ _ (by omega) (by omega) (by omega) (by omega)).mono ?_; rintro e w' ⟨rfl, rfl⟩)); go_quiet ((go_at_call 55; exact Calls.quiet_of_same ((l7Floor _ _ _ (by omega) (by omega) (by omega) (by omega)).mono fun _ _ h => ⟨h.1, h.2.symm⟩))); go_wp2_with (first | (go_at_call 54; (with_reducible refine (l1In_b _ _ _ _ _ Ha).mono ?_); rintro e w' ⟨rfl, rfl⟩) | (go_at_call 54; (with_reducible refine (l1In_b _ _ _ _ _ Hb).mono ?_); rintro e w' ⟨rfl, rfl⟩) | (go_at_call 54; (with_reducible refine (l1In_b _ _ _ _ _ Hc).mono ?_); rintro e w' ⟨rfl, rfl⟩) | (go_at_call 54; (with_reducible refine (l1In_b _ _ _ _ _ Hx).mono ?_); rintro e w' ⟨rfl, rfl⟩) | (go_at_call 54; (with_reducible refine (l1In_b _ _ _ _ _ Hy).mono ?_); rintro e w' ⟨rfl, rfl⟩) | (go_at_call 54; (with_reducible refine (l1In_b _ _ _ _ _ Hz).mono ?_); rintro e w' ⟨rfl, rfl⟩) | (go_at_call 55; refine (l7Floor _ _ _ (by omega) (by omega) (by omega) (by omega)).mono ?_; rintro e w' ⟨rfl, rfl⟩)))
            exact bodyPost_ret (v := .tuple #[.agg #[.int .i64 0, .int .i64 0, .int .i64 0], .bool false]) (by simp [results, Try.results30, go_sem]) rfl ⟨rfl, (by repeat (first | exact Q.refl _ | assumption | refine Q.drewN ?_ _ | refine Q.drew ?_ | refine Q.alloc ?_ _ | refine Q.trans ?_ (by assumption) | refine Q.set ?_ (by first | exact Nat.le_refl _ | omega | (simp; done) | (simp; omega)) _))⟩
        · rw [fromV_no ha hb hc (fun h => hx h.1)]
          have Hx := mkF hx
          clear hx
          (obtain ⟨a1, a2⟩ := ha; obtain ⟨b1, b2⟩ := hb; obtain ⟨c1, c2⟩ := hc; unfold colV; go_enter Try.func30, Try.ntmps30; go_wp2_with (first | (go_at_call 54; (with_reducible refine (l1In_b _ _ _ _ _ Ha).mono ?_); rintro e w' ⟨rfl, rfl⟩) | (go_at_call 54; (with_reducible refine (l1In_b _ _ _ _ _ Hb).mono ?_); rintro e w' ⟨rfl, rfl⟩) | (go_at_call 54; (with_reducible refine (l1In_b _ _ _ _ _ Hc).mono ?_); rintro e w' ⟨rfl, rfl⟩) | (go_at_call 54; (with_reducible refine (l1In_b _ _ _ _ _ Hx).mono ?_); rintro e w' ⟨rfl, rfl⟩) | (go_at_call 54; (with_reducible refine (l1In_b _ _ _ _ _ Hy).mono ?_); rintro e w' ⟨rfl, rfl⟩) | (go_at_call 54; (with_reducible refine (l1In_b _ _ _ _ _ Hz).mono ?_); rintro e w' ⟨rfl, rfl⟩) | (go_at_call 55; refine (l7Floor _ _ _ (by omega) (by omega) (by omega) (by omega)).mono ?_; rintro e w' ⟨rfl, rfl⟩)); go_quiet ((go_at_call 55; exact Calls.quiet_of_same ((l7Floor _ _ _ (by omega) (by omega) (by omega) (by omega)).mono fun _ _ h => ⟨h.1, h.2.symm⟩))); go_wp2_with (first | (go_at_call 54; (with_reducible refine (l1In_b _ _ _ _ _ Ha).mono ?_); rintro e w' ⟨rfl, rfl⟩) | (go_at_call 54; (with_reducible refine (l1In_b _ _ _ _ _ Hb).mono ?_); rintro e w' ⟨rfl, rfl⟩) | (go_at_call 54; (with_reducible refine (l1In_b _ _ _ _ _ Hc).mono ?_); rintro e w' ⟨rfl, rfl⟩) | (go_at_call 54; (with_reducible refine (l1In_b _ _ _ _ _ Hx).mono ?_); rintro e w' ⟨rfl, rfl⟩) | (go_at_call 54; (with_reducible refine (l1In_b _ _ _ _ _ Hy).mono ?_); rintro e w' ⟨rfl, rfl⟩) | (go_at_call 54; (with_reducible refine (l1In_b _ _ _ _ _ Hz).mono ?_); rintro e w' ⟨rfl, rfl⟩) | (go_at_call 55; refine (l7Floor _ _ _ (by omega) (by omega) (by omega) (by omega)).mono ?_; rintro e w' ⟨rfl, rfl⟩)))
          exact bodyPost_ret (v := .tuple #[.agg #[.int .i64 0, .int .i64 0, .int .i64 0], .bool false]) (by simp [results, Try.results30, go_sem]) rfl ⟨rfl, (by repeat (first | exact Q.refl _ | assumption | refine Q.drewN ?_ _ | refine Q.drew ?_ | refine Q.alloc ?_ _ | refine Q.trans ?_ (by assumption) | refine Q.set ?_ (by first | exact Nat.le_refl _ | omega | (simp; done) | (simp; omega)) _))⟩
      · rw [fromV_out (fun h => hc h.2.2)]
        have Hc := mkF hc
        clear ha hb hc
        unfold colV
        go_enter Try.func30, Try.ntmps30
        go_wp2_with (first | (go_at_call 54; (with_reducible refine (l1In_b _ _ _ _ _ Ha).mono ?_); rintro e w' ⟨rfl, rfl⟩) | (go_at_call 54; (with_reducible refine (l1In_b _ _ _ _ _ Hb).mono ?_); rintro e w' ⟨rfl, rfl⟩) | (go_at_call 54; (with_reducible refine (l1In_b _ _ _ _ _ Hc).mono ?_); rintro e w' ⟨rfl, rfl⟩) | (go_at_call 54; (with_reducible refine (l1In_b _ _ _ _ _ Hx).mono ?_); rintro e w' ⟨rfl, rfl⟩) | (go_at_call 54; (with_reducible refine (l1In_b _ _ _ _ _ Hy).mono ?_); rintro e w' ⟨rfl, rfl⟩) | (go_at_call 54; (with_reducible refine (l1In_b _ _ _ _ _ Hz).mono ?_); rintro e w' ⟨rfl, rfl⟩) | (go_at_call 55; refine (l7Floor _ _ _ (by omega) (by omega) (by omega) (by omega)).mono ?_; rintro e w' ⟨rfl, rfl⟩))
        exact bodyPost_ret (v := .tuple #[.agg #[.int .i64 0, .int .i64 0, .int .i64 0], .bool false]) (by simp [results, Try.results30, go_sem]) rfl ⟨rfl, (by repeat (first | exact Q.refl _ | assumption | refine Q.drewN ?_ _ | refine Q.drew ?_ | refine Q.alloc ?_ _ | refine Q.trans ?_ (by assumption) | refine Q.set ?_ (by first | exact Nat.le_refl _ | omega | (simp; done) | (simp; omega)) _))⟩
    · rw [fromV_out (fun h => hb h.2.1)]
      have Hb := mkF hb
      clear ha hb
      unfold colV
      go_enter Try.func30, Try.ntmps30
      go_wp2_with (first | (go_at_call 54; (with_reducible refine (l1In_b _ _ _ _ _ Ha).mono ?_); rintro e w' ⟨rfl, rfl⟩) | (go_at_call 54; (with_reducible refine (l1In_b _ _ _ _ _ Hb).mono ?_); rintro e w' ⟨rfl, rfl⟩) | (go_at_call 54; (with_reducible refine (l1In_b _ _ _ _ _ Hc).mono ?_); rintro e w' ⟨rfl, rfl⟩) | (go_at_call 54; (with_reducible refine (l1In_b _ _ _ _ _ Hx).mono ?_); rintro e w' ⟨rfl, rfl⟩) | (go_at_call 54; (with_reducible refine (l1In_b _ _ _ _ _ Hy).mono ?_); rintro e w' ⟨rfl, rfl⟩) | (go_at_call 54; (with_reducible refine (l1In_b _ _ _ _ _ Hz).mono ?_); rintro e w' ⟨rfl, rfl⟩) | (go_at_call 55; refine (l7Floor _ _ _ (by omega) (by omega) (by omega) (by omega)).mono ?_; rintro e w' ⟨rfl, rfl⟩))
      exact bodyPost_ret (v := .tuple #[.agg #[.int .i64 0, .int .i64 0, .int .i64 0], .bool false]) (by simp [results, Try.results30, go_sem]) rfl ⟨rfl, (by repeat (first | exact Q.refl _ | assumption | refine Q.drewN ?_ _ | refine Q.drew ?_ | refine Q.alloc ?_ _ | refine Q.trans ?_ (by assumption) | refine Q.set ?_ (by first | exact Nat.le_refl _ | omega | (simp; done) | (simp; omega)) _))⟩
  · rw [fromV_out (fun h => ha h.1)]
    have Ha := mkF ha
    clear ha
    unfold colV
    go_enter Try.func30, Try.ntmps30
    go_wp2_with (first | (go_at_call 54; (with_reducible refine (l1In_b _ _ _ _ _ Ha).mono ?_); rintro e w' ⟨rfl, rfl⟩) | (go_at_call 54; (with_reducible refine (l1In_b _ _ _ _ _ Hb).mono ?_); rintro e w' ⟨rfl, rfl⟩) | (go_at_call 54; (with_reducible refine (l1In_b _ _ _ _ _ Hc).mono ?_); rintro e w' ⟨rfl, rfl⟩) | (go_at_call 54; (with_reducible refine (l1In_b _ _ _ _ _ Hx).mono ?_); rintro e w' ⟨rfl, rfl⟩) | (go_at_call 54; (with_reducible refine (l1In_b _ _ _ _ _ Hy).mono ?_); rintro e w' ⟨rfl, rfl⟩) | (go_at_call 54; (with_reducible refine (l1In_b _ _ _ _ _ Hz).mono ?_); rintro e w' ⟨rfl, rfl⟩) | (go_at_call 55; refine (l7Floor _ _ _ (by omega) (by omega) (by omega) (by omega)).mono ?_; rintro e w' ⟨rfl, rfl⟩))
    exact bodyPost_ret (v := .tuple #[.agg #[.int .i64 0, .int .i64 0, .int .i64 0], .bool false]) (by simp [results, Try.results30, go_sem]) rfl ⟨rfl, (by repeat (first | exact Q.refl _ | assumption | refine Q.drewN ?_ _ | refine Q.drew ?_ | refine Q.alloc ?_ _ | refine Q.trans ?_ (by assumption) | refine Q.set ?_ (by first | exact Nat.le_refl _ | omega | (simp; done) | (simp; omega)) _))⟩
end Go.Proofs.Ytnmegieibcmhcaa
