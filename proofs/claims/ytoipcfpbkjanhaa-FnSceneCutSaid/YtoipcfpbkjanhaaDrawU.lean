/-
  What the laws of halving and of doubling draw.
-/
import Derived.Test.YtoipcfpbkjanhaaDrawS
namespace Go.Proofs.Ytoipcfpbkjanhaa
open Go.RowKit

theorem own_parts {w : World} {B n : Nat} {v : Value} {xs : List Int} (h : Own w B v n xs) (hn : 0 < n) : ∃ g c, v = .slice (some ⟨g, 0, none⟩) n c ∧ n ≤ c ∧ c ≤ 9223372036854775807 := by
  rcases h.form' with ⟨_, hz⟩ | ⟨g, c, h1, _, _, h2, h3⟩
  · omega
  · exact ⟨g, c, h1, h2, h3⟩

set_option maxRecDepth 100000 in
set_option maxHeartbeats 2000000 in
theorem DrawHalfSize (v : Value) (x : Option Addr × Nat × List Int) (w : World) (h : ArgBytes w v x) :
    Calls Try.prog 36 #[v] w fun e w' => PicR w w' e ∧ Q w w' := by
  have q0 : Q w (w.alloc (.cells #[.int .i64 0, .int .i64 0, .slice none 0 0] 27)) := (by repeat (first | exact Q.refl _ | assumption | refine Q.drewN ?_ _ | refine Q.drew ?_ | refine Q.alloc ?_ _ | refine Q.trans ?_ (by assumption) | refine Q.set ?_ (by first | exact Nat.le_refl _ | omega | (simp; done) | (simp; omega)) _))
  have h0 := h.q q0
  have b0 := Blk.new w 27 #[.int .i64 0, .int .i64 0, .slice none 0 0]
  have s0 : (w.alloc (.cells #[.int .i64 0, .int .i64 0, .slice none 0 0] 27)).heap.size = w.heap.size + 1 := by simp
  go_enter Try.func36, Try.ntmps36
  go_wp2_with fail
  refine (openCode _ _ _ h0).mono ?_; rintro e w1 ⟨g, rfl, hg, r1, q1⟩
  have b1 := b0.q q1
  have Q1 := q0.trans q1
  have s1 := q1.size
  clear b0 q0 q1 h0 h
  go_wp2_with fail
  refine (pick _ _ _ _ r1 (by omega) (by omega) (by omega)).mono ?_; rintro e w2 ⟨t, rfl, t1, t2, r2, g2⟩
  have s2 := World.grownBy.size g2
  replace b1 := b1.draw g2 (by omega)
  replace Q1 := Dr.toQ g2 Q1 (by omega)
  clear g2 r1
  by_cases ht : 0 < t
  · go_wp2_with fail
    refine (pick _ _ _ _ r2 (by omega) (by omega) (by omega)).mono ?_; rintro e w3 ⟨a, rfl, a1, a2, r3, g3⟩
    have s3 := World.grownBy.size g3
    replace b1 := b1.draw g3 (by omega)
    replace Q1 := Dr.toQ g3 Q1 (by omega)
    clear g3 r2
    go_wp2_with fail
    refine (pick _ _ _ _ r3 (by omega) (by omega) (by omega)).mono ?_; rintro e w4 ⟨b, rfl, b2, b3, r4, g4⟩
    have s4 := World.grownBy.size g4
    replace b1 := b1.draw g4 (by omega)
    replace Q1 := Dr.toQ g4 Q1 (by omega)
    clear g4 r3
    obtain ⟨wn, hwn⟩ : ∃ wn : Nat, 16 * (1 + a) = (wn : Int) := ⟨(16 * (1 + a)).toNat, by omega⟩
    obtain ⟨hn, hhn⟩ : ∃ hn : Nat, 16 * (1 + b) = (hn : Int) := ⟨(16 * (1 + b)).toNat, by omega⟩
    go_wp2_with fail
    refine (l20Pic g _ _ _ wn hn _ r4 (by omega) (by omega) (by omega) (by omega) (by omega) (by omega)).mono ?_; rintro e w5 ⟨v, xs, rfl, o5, _, r5, g5⟩
    have hm1 : 0 < hn * wn := Nat.mul_pos (by omega) (by omega)
    have hm2 : hn * wn ≤ 32 * 32 := Nat.mul_le_mul (by omega) (by omega)
    obtain ⟨gb, c, rfl, c1, c2⟩ := own_parts o5 hm1
    have s5 := g5.size
    have b6 := b1.draw g5 (by omega)
    have bc := b6.cell
    have bf := b6.free
    have Q3 := Lib.hid (g5.toQ Q1 (by omega))
    have O3 := Lib.hid o5.i.rdi
    have HL : Hid (xs.length = hn * wn) := o5.1
    clear b1 b6 Q1 r4 r5 g5 o5
    go_wp2_with fail
    refine bodyPost_ret (v := .agg #[.int .i64 (wn : Int), .int .i64 (hn : Int), .slice (some ⟨gb, 0, none⟩) (hn * wn) c]) (by simp [results, Try.results36, go_sem, bc]) rfl ⟨⟨_, _, (some ⟨gb, 0, none⟩), hn * wn, c, xs, rfl, (by refine RdI.mono (lo := w4.heap.size) (hi := w5.heap.size) ?_ (by omega) (by simp [World.setCell]); repeat (first | exact O3.out | refine RdI.far ?_ (.inl (by show w.heap.size < _; omega)) _)), HL.out, by omega, by omega, by omega, by omega, by omega, c1, c2⟩, ?_⟩
    have hq := Q3.out
    exact (by repeat (first | exact Q.refl _ | assumption | refine Q.drewN ?_ _ | refine Q.drew ?_ | refine Q.alloc ?_ _ | refine Q.trans ?_ (by assumption) | refine Q.set ?_ (by first | exact Nat.le_refl _ | omega | (simp; done) | (simp; omega)) _))
  · go_wp2_with fail
    refine (l20Picture _ _ _ _ r2 (by omega) (by omega) (by omega)).mono ?_; rintro e w3 ⟨⟨W, H, A, m, c, xs, rfl, o3, hl3, hm3, i1, i2, i3, i4, i5, i6⟩, r3, g3⟩
    have s3 := g3.size
    have b3 := b1.draw g3 (by omega)
    have bc := b3.cell
    have bf := b3.free
    have Q3 := Lib.hid (g3.toQ Q1 (by omega))
    have O3 := Lib.hid o3
    clear b1 b3 Q1 r3 g3 o3
    go_wp2_with fail
    refine bodyPost_ret (v := .agg #[.int .i64 W, .int .i64 H, .slice A m c]) (by simp [results, Try.results36, go_sem, bc]) rfl ⟨⟨_, _, A, m, c, xs, rfl, (by refine RdI.mono (lo := w2.heap.size) (hi := w3.heap.size) ?_ (by omega) (by simp [World.setCell]); repeat (first | exact O3.out | refine RdI.far ?_ (.inl (by show w.heap.size < _; omega)) _)), hl3, hm3, i1, i2, i3, i4, i5, i6⟩, ?_⟩
    have hq := Q3.out
    exact (by repeat (first | exact Q.refl _ | assumption | refine Q.drewN ?_ _ | refine Q.drew ?_ | refine Q.alloc ?_ _ | refine Q.trans ?_ (by assumption) | refine Q.set ?_ (by first | exact Nat.le_refl _ | omega | (simp; done) | (simp; omega)) _))

set_option maxRecDepth 100000 in
set_option maxHeartbeats 2000000 in
theorem DrawDoubleSize (v : Value) (x : Option Addr × Nat × List Int) (w : World) (h : ArgBytes w v x) :
    Calls Try.prog 43 #[v] w fun e w' => PicR w w' e ∧ Q w w' := by
  have q0 : Q w (w.alloc (.cells #[.int .i64 0, .int .i64 0, .slice none 0 0] 27)) := (by repeat (first | exact Q.refl _ | assumption | refine Q.drewN ?_ _ | refine Q.drew ?_ | refine Q.alloc ?_ _ | refine Q.trans ?_ (by assumption) | refine Q.set ?_ (by first | exact Nat.le_refl _ | omega | (simp; done) | (simp; omega)) _))
  have h0 := h.q q0
  have b0 := Blk.new w 27 #[.int .i64 0, .int .i64 0, .slice none 0 0]
  have s0 : (w.alloc (.cells #[.int .i64 0, .int .i64 0, .slice none 0 0] 27)).heap.size = w.heap.size + 1 := by simp
  go_enter Try.func43, Try.ntmps43
  go_wp2_with fail
  refine (openCode _ _ _ h0).mono ?_; rintro e w1 ⟨g, rfl, hg, r1, q1⟩
  have b1 := b0.q q1
  have Q1 := q0.trans q1
  have s1 := q1.size
  clear b0 q0 q1 h0 h
  go_wp2_with fail
  refine (pick _ _ _ _ r1 (by omega) (by omega) (by omega)).mono ?_; rintro e w2 ⟨t, rfl, t1, t2, r2, g2⟩
  have s2 := World.grownBy.size g2
  replace b1 := b1.draw g2 (by omega)
  replace Q1 := Dr.toQ g2 Q1 (by omega)
  clear g2 r1
  by_cases ht : 0 < t
  · go_wp2_with fail
    refine (pick _ _ _ _ r2 (by omega) (by omega) (by omega)).mono ?_; rintro e w3 ⟨a, rfl, a1, a2, r3, g3⟩
    have s3 := World.grownBy.size g3
    replace b1 := b1.draw g3 (by omega)
    replace Q1 := Dr.toQ g3 Q1 (by omega)
    clear g3 r2
    go_wp2_with fail
    refine (pick _ _ _ _ r3 (by omega) (by omega) (by omega)).mono ?_; rintro e w4 ⟨b, rfl, b2, b3, r4, g4⟩
    have s4 := World.grownBy.size g4
    replace b1 := b1.draw g4 (by omega)
    replace Q1 := Dr.toQ g4 Q1 (by omega)
    clear g4 r3
    obtain ⟨wn, hwn⟩ : ∃ wn : Nat, 8 * (1 + a) = (wn : Int) := ⟨(8 * (1 + a)).toNat, by omega⟩
    obtain ⟨hn, hhn⟩ : ∃ hn : Nat, 8 * (1 + b) = (hn : Int) := ⟨(8 * (1 + b)).toNat, by omega⟩
    go_wp2_with fail
    refine (l20Pic g _ _ _ wn hn _ r4 (by omega) (by omega) (by omega) (by omega) (by omega) (by omega)).mono ?_; rintro e w5 ⟨v, xs, rfl, o5, _, r5, g5⟩
    have hm1 : 0 < hn * wn := Nat.mul_pos (by omega) (by omega)
    have hm2 : hn * wn ≤ 32 * 32 := Nat.mul_le_mul (by omega) (by omega)
    obtain ⟨gb, c, rfl, c1, c2⟩ := own_parts o5 hm1
    have s5 := g5.size
    have b6 := b1.draw g5 (by omega)
    have bc := b6.cell
    have bf := b6.free
    have Q3 := Lib.hid (g5.toQ Q1 (by omega))
    have O3 := Lib.hid o5.i.rdi
    have HL : Hid (xs.length = hn * wn) := o5.1
    clear b1 b6 Q1 r4 r5 g5 o5
    go_wp2_with fail
    refine bodyPost_ret (v := .agg #[.int .i64 (wn : Int), .int .i64 (hn : Int), .slice (some ⟨gb, 0, none⟩) (hn * wn) c]) (by simp [results, Try.results43, go_sem, bc]) rfl ⟨⟨_, _, (some ⟨gb, 0, none⟩), hn * wn, c, xs, rfl, (by refine RdI.mono (lo := w4.heap.size) (hi := w5.heap.size) ?_ (by omega) (by simp [World.setCell]); repeat (first | exact O3.out | refine RdI.far ?_ (.inl (by show w.heap.size < _; omega)) _)), HL.out, by omega, by omega, by omega, by omega, by omega, c1, c2⟩, ?_⟩
    have hq := Q3.out
    exact (by repeat (first | exact Q.refl _ | assumption | refine Q.drewN ?_ _ | refine Q.drew ?_ | refine Q.alloc ?_ _ | refine Q.trans ?_ (by assumption) | refine Q.set ?_ (by first | exact Nat.le_refl _ | omega | (simp; done) | (simp; omega)) _))
  · go_wp2_with fail
    refine (l20Picture _ _ _ _ r2 (by omega) (by omega) (by omega)).mono ?_; rintro e w3 ⟨⟨W, H, A, m, c, xs, rfl, o3, hl3, hm3, i1, i2, i3, i4, i5, i6⟩, r3, g3⟩
    have s3 := g3.size
    have b3 := b1.draw g3 (by omega)
    have bc := b3.cell
    have bf := b3.free
    have Q3 := Lib.hid (g3.toQ Q1 (by omega))
    have O3 := Lib.hid o3
    clear b1 b3 Q1 r3 g3 o3
    go_wp2_with fail
    refine bodyPost_ret (v := .agg #[.int .i64 W, .int .i64 H, .slice A m c]) (by simp [results, Try.results43, go_sem, bc]) rfl ⟨⟨_, _, A, m, c, xs, rfl, (by refine RdI.mono (lo := w2.heap.size) (hi := w3.heap.size) ?_ (by omega) (by simp [World.setCell]); repeat (first | exact O3.out | refine RdI.far ?_ (.inl (by show w.heap.size < _; omega)) _)), hl3, hm3, i1, i2, i3, i4, i5, i6⟩, ?_⟩
    have hq := Q3.out
    exact (by repeat (first | exact Q.refl _ | assumption | refine Q.drewN ?_ _ | refine Q.drew ?_ | refine Q.alloc ?_ _ | refine Q.trans ?_ (by assumption) | refine Q.set ?_ (by first | exact Nat.le_refl _ | omega | (simp; done) | (simp; omega)) _))
end Go.Proofs.Ytoipcfpbkjanhaa
