/-
  A picture as an argument of the laws.
-/
import Derived.Test.YtoipcfpbkjanhaaFrame
namespace Go.Proofs.Ytoipcfpbkjanhaa
open Go.ChangeShapes Go.WideShapes Go.ChangeAt Go.RowKit Go.Joins

/-- a picture: its columns, its rows, its numbers -/
def ArgPic (w : World) (v : Value) (x : Int × Int × (Option Addr × Nat × List Int)) : Prop := v = .agg #[.int .i64 x.1, .int .i64 x.2.1, .slice x.2.2.1 x.2.2.2.2.length x.2.2.2.1] ∧ Rd w w.heap.size x.2.2.1 x.2.2.2.2 ∧ x.2.2.2.2.length ≤ maxLen

section
variable {H : Type} {enc : TypeId × Value → H} {W : World} {base : Nat} {v : Value} {d : DataW H} {p : List MemPlace}
theorem open_ints_cell {n : Nat} {y : DataW H × List MemPlace} (hf : DataW.trod enc Try.prog W 0 (fun _ => true) true n 22 [v] = some y) : ∃ x, ArgInts W v x := by
  rcases ChangeShapes.open_ints Try.underlying22 Try.underlying3 (by kernel_rfl) hf with ⟨hcs, _⟩ | ⟨x, l, c, zs, hcs, _, hl, hm, hz, _, hcell, hwz⟩
  · simp at hcs
    subst hcs
    exact ⟨(none, 0, []), rfl, Rd.nil _ _ _, by simp, fun i => by simp⟩
  · simp at hcs
    subst hcs
    simp only [if_true] at hz
    have hlen : (zs.take l).length = l := by rw [List.length_take]; omega
    refine ⟨(some x, c, zs.take l), by simp [hlen], ?_, by rw [hlen]; omega, fun i => ?_⟩
    · intro h0
      obtain ⟨b, o, e, hb, hc⟩ := rd_of_cells (len := l) (by omega) hcell (by rw [hlen] at h0; exact h0)
      subst e
      exact ⟨b, o, rfl, hb, fun i hi => hc i (by rw [hlen] at hi; exact hi)⟩
    · exact range_i64 (fun n hn => hwz n (List.mem_of_mem_take hn)) i
theorem open_pic (hv : Value.okWide Try.prog W .any base 24 v) (h : DataW.Trod enc Try.prog W 0 (fun _ => true) true 24 v d p) : ∃ x, ArgPic W v x := by
  obtain ⟨c0, c1, c2, y0, y1, y2, m, rfl, rfl, rfl, hy0, hy1, hy2⟩ := open_agg3 Try.underlying24 (by kernel_rfl) (show Try.prog.cellsOf 24 = 3 by kernel_rfl) hv h
  obtain ⟨a, e0, rfl, _⟩ := DataW.trod_int Try.underlying3 hy0
  obtain ⟨b, e1, rfl, _⟩ := DataW.trod_int Try.underlying3 hy1
  simp at e0 e1
  subst e0 e1
  obtain ⟨x, rfl, h1, h2, _⟩ := open_ints_cell hy2
  exact ⟨(a, b, x), rfl, h1, h2⟩
end
end Go.Proofs.Ytoipcfpbkjanhaa
