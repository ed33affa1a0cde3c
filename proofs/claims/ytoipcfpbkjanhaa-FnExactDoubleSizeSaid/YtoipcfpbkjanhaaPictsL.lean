/-
  What the laws' own helpers on pictures do.
-/
import Derived.Test.YtoipcfpbkjanhaaInts
import Derived.Test.YtoipcfpbkjanhaaPicts
namespace Go.Proofs.Ytoipcfpbkjanhaa
open Go.RowKit

theorem szIntS (A : Option Addr) (n c : Nat) (l : Int) (w : World) (h1 : 0 ≤ l) (h2 : l ≤ 1000000000000) (hn : n ≤ 9223372036854775807) :
    Calls Try.prog 45 #[.slice A n c, .int .i64 l] w fun e w' => e = .returned (.int .i64 (if l < n then -1 else l - n)) ∧ w = w' := by
  by_cases h : l < n
  · rw [if_pos h]
    by_cases hb : n ≤ 4000000000000000000
    · go_enter Try.func45, Try.ntmps45
      go_wp2
      go_ret
      exact ⟨rfl, rfl⟩
    · have hw : IntKind.i64.wrap (l - (n : Int)) = l - n := IntWalk.i64_in _ ⟨by omega, by omega⟩
      have hd : decide (l - (n : Int) < 0) = true := by simp; omega
      go_enter Try.func45, Try.ntmps45
      go_wp2
      go_ret
      exact ⟨rfl, rfl⟩
  · rw [if_neg h]
    go_enter Try.func45, Try.ntmps45
    go_wp2
    go_ret
    exact ⟨rfl, rfl⟩
theorem szPicture (W H : Int) (A : Option Addr) (n c : Nat) (l : Int) (w : World) (h1 : 0 ≤ l) (h2 : l ≤ 1000000000000) (hn : n ≤ 9223372036854775807) :
    Calls Try.prog 13 #[.agg #[.int .i64 W, .int .i64 H, .slice A n c], .int .i64 l] w fun e w' => e = .returned (.int .i64 (if l < n then -1 else l - n)) ∧ Q w w' := by
  by_cases h : l < n
  · rw [if_pos h]
    have HH := Lib.hid h
    clear h
    go_enter Try.func13, Try.ntmps13
    go_wp2_with fail
    refine (szIntS _ _ _ _ _ h1 h2 hn).mono ?_; rw [if_pos HH.out]; rintro e w' ⟨rfl, rfl⟩
    go_wp2_with fail
    go_ret
    exact ⟨rfl, (by repeat (first | exact Q.refl _ | assumption | refine Q.drewN ?_ _ | refine Q.drew ?_ | refine Q.alloc ?_ _ | refine Q.trans ?_ (by assumption) | refine Q.set ?_ (by first | exact Nat.le_refl _ | omega | (simp; done) | (simp; omega)) _))⟩
  · rw [if_neg h]
    have h' : (n : Int) ≤ l := by omega
    clear h
    go_enter Try.func13, Try.ntmps13
    go_wp2_with fail
    refine (szIntS _ _ _ _ _ h1 h2 hn).mono ?_; rw [if_neg (Int.not_lt.2 h')]; rintro e w' ⟨rfl, rfl⟩
    go_wp2_with fail
    go_ret
    exact ⟨rfl, (by repeat (first | exact Q.refl _ | assumption | refine Q.drewN ?_ _ | refine Q.drew ?_ | refine Q.alloc ?_ _ | refine Q.trans ?_ (by assumption) | refine Q.set ?_ (by first | exact Nat.le_refl _ | omega | (simp; done) | (simp; omega)) _))⟩

set_option maxHeartbeats 1000000 in
theorem toPicture (W H : Int) (A : Option Addr) (n c B : Nat) (xs : List Int) (w : World) (hx : Rd w B A xs) (hB : B ≤ w.heap.size) (hn : Hid (xs.length = n)) (hm : n ≤ 1048576) :
    Calls Try.prog 15 #[.agg #[.int .i64 W, .int .i64 H, .slice A n c]] w fun e w' => ∃ v, e = .returned (.agg #[.int .i64 W, .int .i64 H, v]) ∧ Own w' w.heap.size v n xs ∧ Q w w' := by
  have q3 : Q w (((w.alloc (.cells #[.int .i64 W, .int .i64 H, .slice A n c] 24)).alloc (.cells #[.int .i64 0, .int .i64 0, .slice none 0 0] 27)).alloc (.cells #[.int .i64 W, .int .i64 H, .slice none 0 0] 27)) := (by repeat (first | exact Q.refl _ | assumption | refine Q.drewN ?_ _ | refine Q.drew ?_ | refine Q.alloc ?_ _ | refine Q.trans ?_ (by assumption) | refine Q.set ?_ (by first | exact Nat.le_refl _ | omega | (simp; done) | (simp; omega)) _))
  have b0 := ((Blk.new w 24 #[.int .i64 W, .int .i64 H, .slice A n c]).alloc (.cells #[.int .i64 0, .int .i64 0, .slice none 0 0] 27)).alloc (.cells #[.int .i64 W, .int .i64 H, .slice none 0 0] 27)
  have b1 := (Blk.new (w.alloc (.cells #[.int .i64 W, .int .i64 H, .slice A n c] 24)) 27 #[.int .i64 0, .int .i64 0, .slice none 0 0]).alloc (.cells #[.int .i64 W, .int .i64 H, .slice none 0 0] 27)
  have b2 := Blk.new ((w.alloc (.cells #[.int .i64 W, .int .i64 H, .slice A n c] 24)).alloc (.cells #[.int .i64 0, .int .i64 0, .slice none 0 0] 27)) 27 #[.int .i64 W, .int .i64 H, .slice none 0 0]
  have hsz : (((w.alloc (.cells #[.int .i64 W, .int .i64 H, .slice A n c] 24)).alloc (.cells #[.int .i64 0, .int .i64 0, .slice none 0 0] 27)).alloc (.cells #[.int .i64 W, .int .i64 H, .slice none 0 0] 27)).heap.size = w.heap.size + 1 + 1 + 1 := by simp
  simp only [World.size_alloc] at b1 b2
  have HX := Lib.hid (hx.q q3 hB)
  have HSZ := Lib.hid hsz
  clear hx hsz
  go_enter Try.func15, Try.ntmps15
  go_wp2_with fail
  refine (toIntS A n c B xs _ HX.out hn.out (by omega) (Nat.le_trans hB q3.size)).mono ?_; rintro e w4 ⟨v, rfl, o4, q4⟩
  obtain ⟨A4, c4, rfl⟩ := o4.form
  rw [HSZ.out] at o4
  have b4 := b1.q q4
  have d4 := b2.q q4
  have e4 := d4.cell
  have f4 := d4.free
  have c4' := b4.cell
  have g4 := b4.free
  have O4 := Lib.hid o4
  have Q4 := Lib.hid (q3.trans q4)
  clear b0 b1 b2 q3 q4 o4
  go_wp2_with fail
  refine bodyPost_ret (v := .agg #[.int .i64 W, .int .i64 H, .slice A4 n c4]) (by simp [results, Try.results15, go_sem, c4']) rfl ⟨_, rfl, ?_, ?_⟩
  · exact Own.mono (B := w.heap.size + 1 + 1 + 1) (by repeat (first | exact O4.out | refine Own.far ?_ (by simp) _)) (by omega)
  · have hq := Q4.out
    exact (by repeat (first | exact Q.refl _ | assumption | refine Q.drewN ?_ _ | refine Q.drew ?_ | refine Q.alloc ?_ _ | refine Q.trans ?_ (by assumption) | refine Q.set ?_ (by first | exact Nat.le_refl _ | omega | (simp; done) | (simp; omega)) _))

set_option maxHeartbeats 1000000 in
theorem eqPicture (W H W' H' : Int) (A A' : Option Addr) (n n' c c' B B' : Nat) (xs ys : List Int) (t : Bool) (w : World) (hx : Rd w B A xs) (hB : B ≤ w.heap.size) (hy : Rd w B' A' ys) (hB' : B' ≤ w.heap.size) (hn : Hid (xs.length = n)) (hn' : Hid (ys.length = n')) (lx : n ≤ maxLen) (ly : n' ≤ maxLen)
    (ht : Hid (decide (W = W' ∧ H = H' ∧ xs = ys) = t)) :
    Calls Try.prog 18 #[.agg #[.int .i64 W, .int .i64 H, .slice A n c], .agg #[.int .i64 W', .int .i64 H', .slice A' n' c']] w fun e w' => e = .returned (.bool t) ∧ Q w w' := by
  have q0 : Q w ((w.alloc (.cells #[.int .i64 W, .int .i64 H, .slice A n c] 27)).alloc (.cells #[.int .i64 W', .int .i64 H', .slice A' n' c'] 27)) := (by repeat (first | exact Q.refl _ | assumption | refine Q.drewN ?_ _ | refine Q.drew ?_ | refine Q.alloc ?_ _ | refine Q.trans ?_ (by assumption) | refine Q.set ?_ (by first | exact Nat.le_refl _ | omega | (simp; done) | (simp; omega)) _))
  have HX := Lib.hid (hx.q q0 hB)
  have HY := Lib.hid (hy.q q0 hB')
  clear hx hy
  by_cases hW : W = W'
  · have hW' : (W != W') = false := by rw [bne_eq_false_iff_eq]; exact hW
    by_cases hH : H = H'
    · have hH' : (H != H') = false := by rw [bne_eq_false_iff_eq]; exact hH
      cases he : (xs == ys)
      · have HE := Lib.hid he
        have ht' : Hid (t = false) := by rw [Hid, ← ht.out]; exact decide_eq_false (fun h => by have := h.2.2; rw [beq_eq_false_iff_ne] at he; exact he this)
        clear he hW hH
        go_enter Try.func18, Try.ntmps18
        go_wp2_with fail
        refine (eqIntS A A' n n' c c' _ _ xs ys _ HX.out HY.out hn.out hn'.out lx ly).mono ?_; rw [HE.out]; rintro e w' ⟨rfl, k, rfl⟩
        go_wp2_with fail
        go_ret
        exact ⟨by rw [ht'.out]; rfl, q0.drewN _⟩
      · have HE := Lib.hid he
        have ht' : Hid (t = true) := by rw [Hid, ← ht.out]; exact decide_eq_true ⟨hW, hH, by rw [beq_iff_eq] at he; exact he⟩
        clear he hW hH
        go_enter Try.func18, Try.ntmps18
        go_wp2_with fail
        refine (eqIntS A A' n n' c c' _ _ xs ys _ HX.out HY.out hn.out hn'.out lx ly).mono ?_; rw [HE.out]; rintro e w' ⟨rfl, k, rfl⟩
        go_wp2_with fail
        go_ret
        exact ⟨by rw [ht'.out]; rfl, q0.drewN _⟩
    · have hH' : (H != H') = true := by rw [bne_iff_ne]; exact hH
      have ht' : Hid (t = false) := by rw [Hid, ← ht.out]; exact decide_eq_false (fun h => hH h.2.1)
      clear hW hH
      go_enter Try.func18, Try.ntmps18
      go_wp2_with fail
      go_ret
      exact ⟨by rw [ht'.out]; rfl, q0⟩
  · have hW' : (W != W') = true := by rw [bne_iff_ne]; exact hW
    have ht' : Hid (t = false) := by rw [Hid, ← ht.out]; exact decide_eq_false (fun h => hW h.1)
    clear hW
    go_enter Try.func18, Try.ntmps18
    go_wp2_with fail
    go_ret
    exact ⟨by rw [ht'.out]; rfl, q0⟩

theorem markPicture (W H : Int) (v : Value) (n B : Nat) (k0 : Int) (xs : List Int) (w : World) (hx : Own w B v n xs) (hk0 : 0 ≤ k0) (hk1 : k0 ≤ 1000000000000) (lx : n ≤ 1000000000000) :
    Calls Try.prog 19 #[.agg #[.int .i64 W, .int .i64 H, v], .int .i64 k0] w fun e w' => e = .returned (.int .i64 (k0 + n)) ∧ Own w' B v n (upFrom k0 n) ∧ w.grownBy w' v.ownBlock := by
  obtain ⟨A, c, rfl⟩ := hx.form
  have hx1 := Lib.hid (hx.alloc (.cells #[.int .i64 W, .int .i64 H, .slice A n c] 27))
  clear hx
  go_enter Try.func19, Try.ntmps19
  go_wp2_with fail
  refine (markIntS _ _ _ _ _ _ hx1.out hk0 hk1 lx).mono ?_; rintro e w' ⟨rfl, o1, g1⟩
  have O1 := Lib.hid o1
  have G1 := Lib.hid g1
  clear o1 g1
  go_wp2_with fail
  go_ret
  exact ⟨rfl, O1.out, World.grownBy.andThen (row' := (Value.slice A n c).ownBlock) (World.grownBy_alloc _ _ _) G1.out (fun j e => .inr e)⟩
theorem heldPicture (W H : Int) (v : Value) (n B : Nat) (k0 : Int) (w : World) (hx : Own w B v n (upFrom k0 n)) (hk0 : 0 ≤ k0) (hk1 : k0 ≤ 1000000000000) (lx : n ≤ 1000000000000) :
    Calls Try.prog 26 #[.agg #[.int .i64 W, .int .i64 H, v], .int .i64 k0] w fun e w' => e = .returned (.int .i64 (k0 + n)) ∧ Q w w' := by
  obtain ⟨A, c, rfl⟩ := hx.form
  have hx1 := Lib.hid (hx.alloc (.cells #[.int .i64 W, .int .i64 H, .slice A n c] 27))
  clear hx
  go_enter Try.func26, Try.ntmps26
  go_wp2_with fail
  refine (heldIntS _ _ _ _ _ hx1.out hk0 hk1 lx).mono ?_; rintro e w' ⟨rfl, k, rfl⟩
  go_wp2_with fail
  go_ret
  exact ⟨rfl, (by repeat (first | exact Q.refl _ | assumption | refine Q.drewN ?_ _ | refine Q.drew ?_ | refine Q.alloc ?_ _ | refine Q.trans ?_ (by assumption) | refine Q.set ?_ (by first | exact Nat.le_refl _ | omega | (simp; done) | (simp; omega)) _))⟩
end Go.Proofs.Ytoipcfpbkjanhaa
