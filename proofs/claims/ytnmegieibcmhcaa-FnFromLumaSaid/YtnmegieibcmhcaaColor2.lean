/-
  What FromLuma computes, in the program and in the reference.
-/
import Derived.Test.YtnmegieibcmhcaaColor
import Derived.Deep.RegionWith
import Derived.BigGuardPart
namespace Go.Proofs.Ytnmegieibcmhcaa
open Go.RowKit

/-- how FromLuma goes back, with Go's own wrapping -/
def colT (a c : Int) : Int := wrap64 (a - c / 2)
def colB (a b c : Int) : Int := wrap64 (colT a c - b / 2)
def colR (a b c : Int) : Int := wrap64 (colB a b c + b)
def colG (a c : Int) : Int := wrap64 (c + colT a c)

theorem color_any (a b c : Int) (w : World) :
    Calls Try.prog 57 #[colV a b c] w fun e w' => e = .returned (colV (colR a b c) (colG a c) (colB a b c)) ∧ Q w w' := by
  unfold colR colG colB colT colV
  have hs : ∀ n : Int, n >>> 1 = n / 2 := fun n => by rw [Int.shiftRight_eq_div_pow]; rfl
  go_enter Try.func57, Try.ntmps57
  go_wp2
  exact bodyPost_ret (v := .agg #[.int .i64 (wrap64 (wrap64 (wrap64 (a - c / 2) - b / 2) + b)), .int .i64 (wrap64 (c + wrap64 (a - c / 2))), .int .i64 (wrap64 (wrap64 (a - c / 2) - b / 2))]) (by simp [results, Try.results57, go_sem]) rfl ⟨rfl, (by repeat (first | exact Q.refl _ | assumption | refine Q.drewN ?_ _ | refine Q.drew ?_ | refine Q.alloc ?_ _ | refine Q.trans ?_ (by assumption) | refine Q.set ?_ (by first | exact Nat.le_refl _ | omega | (simp; done) | (simp; omega)) _))⟩

/-- what FromLuma accepts -/
def fromOk (a b c : Int) : Prop := isCol (colR a b c) (colG a c) (colB a b c) ∧ lumY (colR a b c) (colG a c) (colB a b c) = a ∧ colR a b c - colB a b c = b ∧ colG a c - lumT (colR a b c) (colB a b c) = c
instance (a b c : Int) : Decidable (fromOk a b c) := by unfold fromOk; infer_instance
def fromV (a b c : Int) : Value := if fromOk a b c then .tuple #[colV (colR a b c) (colG a c) (colB a b c), .bool true] else .tuple #[colV 0 0 0, .bool false]

theorem run_neq_col (t : Bool) (a b c a' b' c' : Int) (h : Hid (decide (a = a' ∧ b = b' ∧ c = c') = t)) (w : World) :
    (binOp .neq 24 (.agg #[.int .i64 a, .int .i64 b, .int .i64 c]) (.agg #[.int .i64 a', .int .i64 b', .int .i64 c'])).run Try.prog w = .ok (.bool !t) w := by
  obtain rfl := h.out
  simp [go_sem]
  by_cases ha : a = a' <;> by_cases hb : b = b' <;> by_cases hc : c = c' <;> simp [ha, hb, hc]

set_option maxHeartbeats 1000000 in
theorem impl_FromLuma (a b c : Int) (w : World) :
    Calls Try.prog 19 #[colV a b c] w fun e w' => e = .returned (fromV a b c) ∧ Q w w' := by
  by_cases h1 : isCol (colR a b c) (colG a c) (colB a b c)
  · have H1 := hid_ _ h1
    have D1 := hid_ _ (decide_eq_true h1)
    obtain ⟨t, ht⟩ : ∃ t, decide (lumY (colR a b c) (colG a c) (colB a b c) = a ∧ colR a b c - colB a b c = b ∧ colG a c - lumT (colR a b c) (colB a b c) = c) = t := ⟨_, rfl⟩
    have hne := fun w => run_neq_col t _ _ _ _ _ _ (hid_ _ ht) w
    have HV : Hid (fromV a b c = if t = true then .tuple #[colV (colR a b c) (colG a c) (colB a b c), .bool true] else .tuple #[colV 0 0 0, .bool false]) := by
      unfold Hid fromV fromOk
      subst ht
      simp [h1]
    clear h1 ht
    unfold colV
    go_enter Try.func19, Try.ntmps19
    go_wp2_with fail
    refine (color_any _ _ _ _).mono ?_; rintro e w1 ⟨rfl, hq⟩
    unfold colV
    have b1 := ((Blk.new _ _ _).alloc _).q hq
    have b2 := (Blk.new _ _ _).q hq
    rw [World.size_alloc] at b2
    have c1 := b1.cell; have c2 := b2.cell; have f2 := b2.free
    go_wp2_with fail
    have b4 := Blk.new w1 24 #[.int .i64 (colR a b c), .int .i64 (colG a c), .int .i64 (colB a b c)]
    have b5 := b1.alloc (.cells #[.int .i64 (colR a b c), .int .i64 (colG a c), .int .i64 (colB a b c)] 24)
    have b6 := b2.alloc (.cells #[.int .i64 (colR a b c), .int .i64 (colG a c), .int .i64 (colB a b c)] 24)
    have q6 : Q w (w1.alloc (.cells #[.int .i64 (colR a b c), .int .i64 (colG a c), .int .i64 (colB a b c)] 24)) := (by repeat (first | exact Q.refl _ | assumption | refine Q.drewN ?_ _ | refine Q.drew ?_ | refine Q.alloc ?_ _ | refine Q.trans ?_ (by assumption) | refine Q.set ?_ (by first | exact Nat.le_refl _ | omega | (simp; done) | (simp; omega)) _))
    generalize w1.alloc (.cells #[.int .i64 (colR a b c), .int .i64 (colG a c), .int .i64 (colB a b c)] 24) = W at b4 b5 b6 q6 ⊢
    generalize w1.heap.size = g4 at b4 ⊢
    clear c1 c2 f2 b1 b2 hq
    have c4 := b4.cell
    have c5 := b5.cell
    go_region_with (first | (go_at_call 52; refine (isColor_b _ _ _ _ _ D1).mono ?_; rintro e w2 ⟨rfl, hq2⟩; have b7 := Blk.q (w := W.drew) b4 hq2; have b8 := Blk.q (w := W.drew) b5 hq2; have b88 := Blk.q (w := W.drew) b6 hq2; have c7 := b7.cell; have c8 := b8.cell) | (go_at_call 53; refine (luma _ _ _ _ H1.out).mono ?_; unfold colV; rintro e w3 ⟨rfl, hq3⟩; have b9 := b8.q hq3; have c9 := b9.cell; have b10 := b7.q hq3; have c10 := b10.cell; have b11 := b88.q hq3; have c11 := b11.cell; have f11 := b11.free))
    all_goals
      have qq : Q w w3 := (q6.drew.trans hq2).trans hq3
      clear b4 b5 b6 c4 c5 b7 b8 b88 c7 c8 b9 c9 q6 hne hq2 hq3
      cases t
      · go_wp2_with fail
        exact bodyPost_ret (v := .tuple #[.agg #[.int .i64 0, .int .i64 0, .int .i64 0], .bool false]) (by simp [results, Try.results19, go_sem, c11]) rfl ⟨by rw [HV.out]; rfl, (by repeat (first | exact Q.refl _ | assumption | refine Q.drewN ?_ _ | refine Q.drew ?_ | refine Q.alloc ?_ _ | refine Q.trans ?_ (by assumption) | refine Q.set ?_ (by first | exact Nat.le_refl _ | omega | (simp; done) | (simp; omega)) _))⟩
      · go_wp2_with fail
        exact bodyPost_ret (v := .tuple #[.agg #[.int .i64 (colR a b c), .int .i64 (colG a c), .int .i64 (colB a b c)], .bool true]) (by simp [results, Try.results19, go_sem, c11]) rfl ⟨by rw [HV.out]; rfl, (by repeat (first | exact Q.refl _ | assumption | refine Q.drewN ?_ _ | refine Q.drew ?_ | refine Q.alloc ?_ _ | refine Q.trans ?_ (by assumption) | refine Q.set ?_ (by first | exact Nat.le_refl _ | omega | (simp; done) | (simp; omega)) _))⟩
  · have D1 := hid_ _ (decide_eq_false h1)
    have HV : Hid (fromV a b c = .tuple #[colV 0 0 0, .bool false]) := by
      unfold Hid fromV fromOk
      simp [h1]
    clear h1
    unfold colV
    go_enter Try.func19, Try.ntmps19
    go_wp2_with fail
    refine (color_any _ _ _ _).mono ?_; rintro e w1 ⟨rfl, hq⟩
    unfold colV
    have b1 := ((Blk.new _ _ _).alloc _).q hq
    have b2 := (Blk.new _ _ _).q hq
    rw [World.size_alloc] at b2
    have c1 := b1.cell; have c2 := b2.cell; have f2 := b2.free
    go_wp2_with fail
    have b4 := Blk.new w1 24 #[.int .i64 (colR a b c), .int .i64 (colG a c), .int .i64 (colB a b c)]
    have b5 := b1.alloc (.cells #[.int .i64 (colR a b c), .int .i64 (colG a c), .int .i64 (colB a b c)] 24)
    have b6 := b2.alloc (.cells #[.int .i64 (colR a b c), .int .i64 (colG a c), .int .i64 (colB a b c)] 24)
    have q6 : Q w (w1.alloc (.cells #[.int .i64 (colR a b c), .int .i64 (colG a c), .int .i64 (colB a b c)] 24)) := (by repeat (first | exact Q.refl _ | assumption | refine Q.drewN ?_ _ | refine Q.drew ?_ | refine Q.alloc ?_ _ | refine Q.trans ?_ (by assumption) | refine Q.set ?_ (by first | exact Nat.le_refl _ | omega | (simp; done) | (simp; omega)) _))
    generalize w1.alloc (.cells #[.int .i64 (colR a b c), .int .i64 (colG a c), .int .i64 (colB a b c)] 24) = W at b4 b5 b6 q6 ⊢
    generalize w1.heap.size = g4 at b4 ⊢
    clear c1 c2 f2 b1 b2 hq
    have c4 := b4.cell
    have c5 := b5.cell
    go_region_with (first | (go_at_call 52; refine (isColor_b _ _ _ _ _ D1).mono ?_; rintro e w2 ⟨rfl, hq2⟩; have b11 := Blk.q (w := W.drew) b6 hq2; have c11 := b11.cell; have f11 := b11.free))
    all_goals
      have qq : Q w w2 := q6.drew.trans hq2
      clear b4 b5 b6 c4 c5 q6 hq2
      go_wp2_with fail
      exact bodyPost_ret (v := .tuple #[.agg #[.int .i64 0, .int .i64 0, .int .i64 0], .bool false]) (by simp [results, Try.results19, go_sem, c11]) rfl ⟨by rw [HV.out]; rfl, (by repeat (first | exact Q.refl _ | assumption | refine Q.drewN ?_ _ | refine Q.drew ?_ | refine Q.alloc ?_ _ | refine Q.trans ?_ (by assumption) | refine Q.set ?_ (by first | exact Nat.le_refl _ | omega | (simp; done) | (simp; omega)) _))⟩
end Go.Proofs.Ytnmegieibcmhcaa
