/-
  What the laws of histograms, of cuts and of fades draw.
-/
import Derived.Test.YtoipcfpbkjanhaaDrawR
namespace Go.Proofs.Ytoipcfpbkjanhaa
open Go.RowKit

theorem Dr.toQ {g : Nat} {a b w : World} (h : Dr g b w) (hq : Q a b) (hg : a.heap.size ≤ g) : Q a w := hq.draw h hg

set_option maxRecDepth 100000 in
set_option maxHeartbeats 2000000 in
theorem DrawHistogram (v : Value) (x : Option Addr × Nat × List Int) (w : World) (h : ArgBytes w v x) :
    Calls Try.prog 31 #[v] w fun e w' => PicR w w' e ∧ Q w w' := by
  have q0 : Q w (w.alloc (.cells #[.int .i64 0, .int .i64 0, .slice none 0 0] 27)) := (by repeat (first | exact Q.refl _ | assumption | refine Q.drewN ?_ _ | refine Q.drew ?_ | refine Q.alloc ?_ _ | refine Q.trans ?_ (by assumption) | refine Q.set ?_ (by first | exact Nat.le_refl _ | omega | (simp; done) | (simp; omega)) _))
  have h0 := h.q q0
  have b0 := Blk.new w 27 #[.int .i64 0, .int .i64 0, .slice none 0 0]
  have s0 : (w.alloc (.cells #[.int .i64 0, .int .i64 0, .slice none 0 0] 27)).heap.size = w.heap.size + 1 := by simp
  go_enter Try.func31, Try.ntmps31
  go_wp2_with fail
  refine (openCode _ _ _ h0).mono ?_; rintro e w1 ⟨g, rfl, hg, r1, q1⟩
  have b1 := b0.q q1
  have Q1 := q0.trans q1
  have s1 := q1.size
  go_wp2_with fail
  refine (l20Picture _ _ _ _ r1 (by omega) (by omega) (by omega)).mono ?_; rintro e w3 ⟨⟨W, H, A, m, c, xs, rfl, o3, hl3, hm3, i1, i2, i3, i4, i5, i6⟩, r3, g3⟩
  have s3 := g3.size
  have b3 := b1.draw g3 (by omega)
  have bc := b3.cell
  have bf := b3.free
  have Q3 := Lib.hid (g3.toQ Q1 (by omega))
  have O3 := Lib.hid o3
  clear b0 b1 b3 q0 q1 Q1 r1 r3 g3 o3 h0 h
  go_wp2_with fail
  refine bodyPost_ret (v := .agg #[.int .i64 W, .int .i64 H, .slice A m c]) (by simp [results, Try.results31, go_sem, bc]) rfl ⟨⟨_, _, A, m, c, xs, rfl, (by refine RdI.mono (lo := w1.heap.size) (hi := w3.heap.size) ?_ (by omega) (by simp [World.setCell]); repeat (first | exact O3.out | refine RdI.far ?_ (.inl (by show w.heap.size < _; omega)) _)), hl3, hm3, i1, i2, i3, i4, i5, i6⟩, ?_⟩
  have hq := Q3.out
  exact (by repeat (first | exact Q.refl _ | assumption | refine Q.drewN ?_ _ | refine Q.drew ?_ | refine Q.alloc ?_ _ | refine Q.trans ?_ (by assumption) | refine Q.set ?_ (by first | exact Nat.le_refl _ | omega | (simp; done) | (simp; omega)) _))
end Go.Proofs.Ytoipcfpbkjanhaa
