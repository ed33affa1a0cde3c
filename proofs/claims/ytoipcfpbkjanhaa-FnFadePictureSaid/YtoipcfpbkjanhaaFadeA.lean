/-
  FadePicture, whatever its arguments: of the program and of the reference.
-/
import Derived.Test.YtoipcfpbkjanhaaFade3
namespace Go.Proofs.Ytoipcfpbkjanhaa
open Go.RowKit

/-- the columns, the rows and the numbers of what FadePicture returns -/
def fadeP (t W H : Int) (xs : List Int) (W' H' : Int) (ys : List Int) : Int × Int × List Int := if sameB W H xs W' H' ys = true ∧ 0 ≤ t ∧ t ≤ 8 then (W, H, fadeL t xs ys) else (0, 0, [])
theorem fadeP_len (t W H W' H' : Int) (xs ys : List Int) : (fadeP t W H xs W' H' ys).2.2.length ≤ 1024 := by
  unfold fadeP
  split
  · rename_i h
    obtain ⟨_, _, hl, _, l2, _⟩ := same_parts h.1
    have := fadeL_len t xs ys hl
    show (fadeL t xs ys).length ≤ 1024
    omega
  · simp

set_option maxHeartbeats 1000000 in
theorem impl_Fade_no (W H W' H' t : Int) (A A' : Option Addr) (n n' c c' B B' : Nat) (xs ys : List Int) (w : World) (hx : Rd w B A xs) (hB : B ≤ w.heap.size) (hy : Rd w B' A' ys) (hB' : B' ≤ w.heap.size)
    (hn : Hid (xs.length = n)) (hn' : Hid (ys.length = n')) (hm : n ≤ 9223372036854775807) (hm' : n' ≤ 9223372036854775807) (hs : Hid (sameB W H xs W' H' ys = false ∨ t < 0 ∨ 8 < t)) :
    Calls Try.prog 25 #[.agg #[.int .i64 W, .int .i64 H, .slice A n c], .agg #[.int .i64 W', .int .i64 H', .slice A' n' c'], .int .i64 t] w fun e w' => e = .returned (.agg #[.int .i64 0, .int .i64 0, .slice none 0 0]) ∧ Q w w' := by
  have q0 : Q w (((w.alloc (.cells #[.int .i64 W, .int .i64 H, .slice A n c] 27)).alloc (.cells #[.int .i64 W', .int .i64 H', .slice A' n' c'] 27)).alloc (.cells #[.int .i64 0, .int .i64 0, .slice none 0 0] 27)) := (by repeat (first | exact Q.refl _ | assumption | refine Q.drewN ?_ _ | refine Q.drew ?_ | refine Q.alloc ?_ _ | refine Q.trans ?_ (by assumption) | refine Q.set ?_ (by first | exact Nat.le_refl _ | omega | (simp; done) | (simp; omega)) _))
  have b0 := ((Blk.new w 27 #[.int .i64 W, .int .i64 H, .slice A n c]).alloc (.cells #[.int .i64 W', .int .i64 H', .slice A' n' c'] 27)).alloc (.cells #[.int .i64 0, .int .i64 0, .slice none 0 0] 27)
  have d0 := (Blk.new (w.alloc (.cells #[.int .i64 W, .int .i64 H, .slice A n c] 27)) 27 #[.int .i64 W', .int .i64 H', .slice A' n' c']).alloc (.cells #[.int .i64 0, .int .i64 0, .slice none 0 0] 27)
  have r0 := Blk.new ((w.alloc (.cells #[.int .i64 W, .int .i64 H, .slice A n c] 27)).alloc (.cells #[.int .i64 W', .int .i64 H', .slice A' n' c'] 27)) 27 #[.int .i64 0, .int .i64 0, .slice none 0 0]
  simp only [World.size_alloc] at d0 r0
  have s0 := q0.size
  have HX := Lib.hid (hx.q q0 hB)
  have HY := Lib.hid (hy.q q0 hB')
  clear hx hy
  cases ht : sameB W H xs W' H' ys
  · have HT := Lib.hid ht
    clear ht hs
    go_enter Try.func25, Try.ntmps25
    go_wp2_with fail
    refine (impl_alike W H W' H' A A' n n' c c' _ _ xs ys false _ HX.out (by omega) HY.out (by omega) hn hn' hm hm' HT).mono ?_; rintro e w4 ⟨rfl, q4⟩
    have r4 := (r0.q q4).cell
    have f4 := (r0.q q4).free
    go_wp2_with fail
    refine bodyPost_ret (v := .agg #[.int .i64 0, .int .i64 0, .slice none 0 0]) (by simp [results, Try.results25, go_sem, r4]) rfl ⟨rfl, ?_⟩
    have hq := q0.trans q4
    exact (by repeat (first | exact Q.refl _ | assumption | refine Q.drewN ?_ _ | refine Q.drew ?_ | refine Q.alloc ?_ _ | refine Q.trans ?_ (by assumption) | refine Q.set ?_ (by first | exact Nat.le_refl _ | omega | (simp; done) | (simp; omega)) _))
  · have HT := Lib.hid ht
    have ho : t < 0 ∨ 8 < t := by
      rcases hs.out with h | h
      · rw [ht] at h; cases h
      · exact h
    clear ht hs
    rcases ho with ho | ho
    · go_enter Try.func25, Try.ntmps25
      go_wp2_with fail
      refine (impl_alike W H W' H' A A' n n' c c' _ _ xs ys true _ HX.out (by omega) HY.out (by omega) hn hn' hm hm' HT).mono ?_; rintro e w4 ⟨rfl, q4⟩
      have r4 := (r0.q q4).cell
      have f4 := (r0.q q4).free
      go_wp2_with fail
      refine bodyPost_ret (v := .agg #[.int .i64 0, .int .i64 0, .slice none 0 0]) (by simp [results, Try.results25, go_sem, r4]) rfl ⟨rfl, ?_⟩
      have hq := q0.trans q4
      exact (by repeat (first | exact Q.refl _ | assumption | refine Q.drewN ?_ _ | refine Q.drew ?_ | refine Q.alloc ?_ _ | refine Q.trans ?_ (by assumption) | refine Q.set ?_ (by first | exact Nat.le_refl _ | omega | (simp; done) | (simp; omega)) _))
    · have h1 : ¬ t < 0 := by omega
      go_enter Try.func25, Try.ntmps25
      go_wp2_with fail
      refine (impl_alike W H W' H' A A' n n' c c' _ _ xs ys true _ HX.out (by omega) HY.out (by omega) hn hn' hm hm' HT).mono ?_; rintro e w4 ⟨rfl, q4⟩
      have r4 := (r0.q q4).cell
      have f4 := (r0.q q4).free
      go_wp2_with fail
      refine bodyPost_ret (v := .agg #[.int .i64 0, .int .i64 0, .slice none 0 0]) (by simp [results, Try.results25, go_sem, r4]) rfl ⟨rfl, ?_⟩
      have hq := q0.trans q4
      exact (by repeat (first | exact Q.refl _ | assumption | refine Q.drewN ?_ _ | refine Q.drew ?_ | refine Q.alloc ?_ _ | refine Q.trans ?_ (by assumption) | refine Q.set ?_ (by first | exact Nat.le_refl _ | omega | (simp; done) | (simp; omega)) _))

set_option maxHeartbeats 1000000 in
theorem spec_Fade_no (W H W' H' t : Int) (A A' : Option Addr) (n n' c c' B B' : Nat) (xs ys : List Int) (w : World) (hx : Rd w B A xs) (hB : B ≤ w.heap.size) (hy : Rd w B' A' ys) (hB' : B' ≤ w.heap.size)
    (hn : Hid (xs.length = n)) (hn' : Hid (ys.length = n')) (hm : n ≤ 9223372036854775807) (hm' : n' ≤ 9223372036854775807) (hs : Hid (sameB W H xs W' H' ys = false ∨ t < 0 ∨ 8 < t)) :
    Calls Try.prog 24 #[.agg #[.int .i64 W, .int .i64 H, .slice A n c], .agg #[.int .i64 W', .int .i64 H', .slice A' n' c'], .int .i64 t] w fun e w' => e = .returned (.agg #[.int .i64 0, .int .i64 0, .slice none 0 0]) ∧ Q w w' := by
  have q0 : Q w (((w.alloc (.cells #[.int .i64 W, .int .i64 H, .slice A n c] 27)).alloc (.cells #[.int .i64 W', .int .i64 H', .slice A' n' c'] 27)).alloc (.cells #[.int .i64 0, .int .i64 0, .slice none 0 0] 27)) := (by repeat (first | exact Q.refl _ | assumption | refine Q.drewN ?_ _ | refine Q.drew ?_ | refine Q.alloc ?_ _ | refine Q.trans ?_ (by assumption) | refine Q.set ?_ (by first | exact Nat.le_refl _ | omega | (simp; done) | (simp; omega)) _))
  have b0 := ((Blk.new w 27 #[.int .i64 W, .int .i64 H, .slice A n c]).alloc (.cells #[.int .i64 W', .int .i64 H', .slice A' n' c'] 27)).alloc (.cells #[.int .i64 0, .int .i64 0, .slice none 0 0] 27)
  have d0 := (Blk.new (w.alloc (.cells #[.int .i64 W, .int .i64 H, .slice A n c] 27)) 27 #[.int .i64 W', .int .i64 H', .slice A' n' c']).alloc (.cells #[.int .i64 0, .int .i64 0, .slice none 0 0] 27)
  have r0 := Blk.new ((w.alloc (.cells #[.int .i64 W, .int .i64 H, .slice A n c] 27)).alloc (.cells #[.int .i64 W', .int .i64 H', .slice A' n' c'] 27)) 27 #[.int .i64 0, .int .i64 0, .slice none 0 0]
  simp only [World.size_alloc] at d0 r0
  have s0 := q0.size
  have HX := Lib.hid (hx.q q0 hB)
  have HY := Lib.hid (hy.q q0 hB')
  clear hx hy
  cases ht : sameB W H xs W' H' ys
  · have HT := Lib.hid ht
    clear ht hs
    go_enter Try.func24, Try.ntmps24
    go_wp2_with fail
    refine (spec_l1Same W H W' H' A A' n n' c c' _ _ xs ys false _ HX.out (by omega) HY.out (by omega) hn hn' hm hm' HT).mono ?_; rintro e w4 ⟨rfl, q4⟩
    have r4 := (r0.q q4).cell
    have f4 := (r0.q q4).free
    go_wp2_with fail
    refine bodyPost_ret (v := .agg #[.int .i64 0, .int .i64 0, .slice none 0 0]) (by simp [results, Try.results24, go_sem, r4]) rfl ⟨rfl, ?_⟩
    have hq := q0.trans q4
    exact (by repeat (first | exact Q.refl _ | assumption | refine Q.drewN ?_ _ | refine Q.drew ?_ | refine Q.alloc ?_ _ | refine Q.trans ?_ (by assumption) | refine Q.set ?_ (by first | exact Nat.le_refl _ | omega | (simp; done) | (simp; omega)) _))
  · have HT := Lib.hid ht
    have ho : t < 0 ∨ 8 < t := by
      rcases hs.out with h | h
      · rw [ht] at h; cases h
      · exact h
    clear ht hs
    have HO := Lib.hid ho
    clear ho
    go_enter Try.func24, Try.ntmps24
    go_wp2_with fail
    refine (spec_l1Same W H W' H' A A' n n' c c' _ _ xs ys true _ HX.out (by omega) HY.out (by omega) hn hn' hm hm' HT).mono ?_; rintro e w4 ⟨rfl, q4⟩
    have r4 := (r0.q q4).cell
    have f4 := (r0.q q4).free
    go_wp2_with fail
    refine (l1In_ff t 0 8 _ HO.out).mono ?_; rintro e w' ⟨rfl, rfl⟩
    go_wp2_with fail
    refine bodyPost_ret (v := .agg #[.int .i64 0, .int .i64 0, .slice none 0 0]) (by simp [results, Try.results24, go_sem, r4]) rfl ⟨rfl, ?_⟩
    have hq := q0.trans q4
    exact (by repeat (first | exact Q.refl _ | assumption | refine Q.drewN ?_ _ | refine Q.drew ?_ | refine Q.alloc ?_ _ | refine Q.trans ?_ (by assumption) | refine Q.set ?_ (by first | exact Nat.le_refl _ | omega | (simp; done) | (simp; omega)) _))

theorem no_of {b : Bool} {t : Int} (h : ¬ (b = true ∧ 0 ≤ t ∧ t ≤ 8)) : Hid (b = false ∨ t < 0 ∨ 8 < t) := by
  unfold Hid
  cases b
  · exact .inl rfl
  · refine .inr ?_
    by_cases h1 : t < 0
    · exact .inl h1
    · exact .inr (by
        rcases Int.lt_or_le 8 t with h2 | h2
        · exact h2
        · exact absurd ⟨rfl, by omega, h2⟩ h)
theorem impl_Fade (W H W' H' t : Int) (A A' : Option Addr) (n n' c c' B B' : Nat) (xs ys : List Int) (w : World) (hx : Rd w B A xs) (hB : B ≤ w.heap.size) (hy : Rd w B' A' ys) (hB' : B' ≤ w.heap.size)
    (hn : Hid (xs.length = n)) (hn' : Hid (ys.length = n')) (hm : n ≤ 9223372036854775807) (hm' : n' ≤ 9223372036854775807) :
    Calls Try.prog 25 #[.agg #[.int .i64 W, .int .i64 H, .slice A n c], .agg #[.int .i64 W', .int .i64 H', .slice A' n' c'], .int .i64 t] w fun e w' => ∃ v, e = .returned (.agg #[.int .i64 (fadeP t W H xs W' H' ys).1, .int .i64 (fadeP t W H xs W' H' ys).2.1, v]) ∧ Own w' w.heap.size v (fadeP t W H xs W' H' ys).2.2.length (fadeP t W H xs W' H' ys).2.2 ∧ Q w w' :=
  (by by_cases h : sameB W H xs W' H' ys = true ∧ 0 ≤ t ∧ t ≤ 8; rw [fadeP, if_pos h]; refine (impl_Fade_ok W H W' H' t A A' n n' c c' B B' xs ys w hx hB hy hB' hn hn' h.1 h.2.1 h.2.2).mono ?_; rintro e w' ⟨v, rfl, o, q⟩; obtain ⟨_, _, hl, _⟩ := same_parts h.1; exact ⟨v, rfl, by rw [show (fadeL t xs ys).length = n by rw [fadeL_len t xs ys hl, hn.out]]; exact o, q⟩; rw [fadeP, if_neg h]; refine (impl_Fade_no W H W' H' t A A' n n' c c' B B' xs ys w hx hB hy hB' hn hn' hm hm' (no_of h)).mono ?_; rintro e w' ⟨rfl, q⟩; exact ⟨_, rfl, Own.nil _ _, q⟩)
theorem spec_Fade (W H W' H' t : Int) (A A' : Option Addr) (n n' c c' B B' : Nat) (xs ys : List Int) (w : World) (hx : Rd w B A xs) (hB : B ≤ w.heap.size) (hy : Rd w B' A' ys) (hB' : B' ≤ w.heap.size)
    (hn : Hid (xs.length = n)) (hn' : Hid (ys.length = n')) (hm : n ≤ 9223372036854775807) (hm' : n' ≤ 9223372036854775807) :
    Calls Try.prog 24 #[.agg #[.int .i64 W, .int .i64 H, .slice A n c], .agg #[.int .i64 W', .int .i64 H', .slice A' n' c'], .int .i64 t] w fun e w' => ∃ v, e = .returned (.agg #[.int .i64 (fadeP t W H xs W' H' ys).1, .int .i64 (fadeP t W H xs W' H' ys).2.1, v]) ∧ Own w' w.heap.size v (fadeP t W H xs W' H' ys).2.2.length (fadeP t W H xs W' H' ys).2.2 ∧ Q w w' :=
  (by by_cases h : sameB W H xs W' H' ys = true ∧ 0 ≤ t ∧ t ≤ 8; rw [fadeP, if_pos h]; refine (spec_Fade_ok W H W' H' t A A' n n' c c' B B' xs ys w hx hB hy hB' hn hn' h.1 h.2.1 h.2.2).mono ?_; rintro e w' ⟨v, rfl, o, q⟩; obtain ⟨_, _, hl, _⟩ := same_parts h.1; exact ⟨v, rfl, by rw [show (fadeL t xs ys).length = n by rw [fadeL_len t xs ys hl, hn.out]]; exact o, q⟩; rw [fadeP, if_neg h]; refine (spec_Fade_no W H W' H' t A A' n n' c c' B B' xs ys w hx hB hy hB' hn hn' hm hm' (no_of h)).mono ?_; rintro e w' ⟨rfl, q⟩; exact ⟨_, rfl, Own.nil _ _, q⟩)
end Go.Proofs.Ytoipcfpbkjanhaa
