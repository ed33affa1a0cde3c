/-
  The arguments of the laws as the walks take them: what a value of each parameter's type holds.
-/
import Derived.Test.YtkdmhlbmhjolcaaDoorRows
import Derived.Test.YtkdmhlbmhjolcaaDoorLib
import Derived.ProofKit
import Derived.OpenShut
import Derived.ShutString
import Derived.ChangeOld
import Derived.Lib.SmallJoins
namespace Go.Proofs.YtkdmhlbmhjolcaaDoor
open Go.ChangeShapes Go.WideShapes Go.ChangeAt Go.RowKit Go.Joins

theorem own_knob : ownKnob Tryd.prog.godebug = none := by kernel_rfl
theorem laid_out : laidOutB Tryd.prog = true := by kernel_rfl

/-- an int -/
def ArgInt (v : Value) (n : Int) : Prop := v = .int .i64 n ∧ -9223372036854775808 ≤ n ∧ n ≤ 9223372036854775807
/-- a slice of ints: its address, its capacity, its numbers -/
def ArgInts (w : World) (v : Value) (x : Option Addr × Nat × List Int) : Prop := v = .slice x.1 x.2.2.length x.2.1 ∧ Rd w w.heap.size x.1 x.2.2 ∧ x.2.2.length ≤ maxLen ∧ ∀ i : Nat, -9223372036854775808 ≤ x.2.2[i]?.getD 0 ∧ x.2.2[i]?.getD 0 ≤ 9223372036854775807

section
variable {H : Type} {enc : TypeId × Value → H} {W : World} {base : Nat} {v : Value} {d : DataW H} {p : List MemPlace}
theorem open_int (hv : Value.okWide Tryd.prog W .any base 3 v) (h : DataW.Trod enc Tryd.prog W 0 (fun _ => true) true 3 v d p) : ∃ n, ArgInt v n := by
  obtain ⟨n, rfl, _, _, hw⟩ := ChangeShapes.open_int Tryd.underlying3 hv h
  exact ⟨n, rfl, bounds_i64 hw⟩
theorem rd_of_cells {k : IntKind} {w : World} {a : Addr} {zs : List Int} {len : Nat} (hl : len ≤ zs.length) (hcell : ∀ i, i < zs.length → w.cell? (a.add i) = some (.int k (zs.getD i 0))) :
    0 < len → ∃ b o, a = ⟨b, o, none⟩ ∧ b < w.heap.size ∧ ∀ i, i < len → w.cell? ⟨b, o + i, none⟩ = some (.int k ((zs.take len)[i]?.getD 0)) := by
  intro h0
  obtain ⟨b, off, spot⟩ := a
  have hc := hcell 0 (by omega)
  have hspot : spot = none := by simpa [Addr.add] using World.cell?_spot hc
  subst hspot
  refine ⟨b, off, rfl, ?_, fun i hi => ?_⟩
  · rcases Nat.lt_or_ge b w.heap.size with hlt | hge
    · exact hlt
    · simp [Addr.add, World.cell?, hge] at hc
  · have h1 := hcell i (by omega)
    have e : (⟨b, off, none⟩ : Addr).add i = ⟨b, off + i, none⟩ := by
      unfold Addr.add
      split
      · rename_i h; subst h; rfl
      · rfl
    rw [e] at h1
    rw [h1]
    simp [hi]

theorem open_ints (hv : Value.okWide Tryd.prog W .any base 56 v) (h : DataW.Trod enc Tryd.prog W 0 (fun _ => true) true 56 v d p) : ∃ x, ArgInts W v x := by
  obtain ⟨a0, len0, cap0, rfl⟩ := okWide_slice Tryd.underlying56 hv
  obtain ⟨fuel, hf⟩ := h
  rcases ChangeShapes.open_ints Tryd.underlying56 Tryd.underlying3 (by kernel_rfl) hf with ⟨hcs, _⟩ | ⟨x, l, c, zs, hcs, _, hl, hm, hz, _, hcell, hwz⟩
  · simp [Value.cells] at hcs
    obtain ⟨rfl, rfl, rfl⟩ := hcs
    exact ⟨(none, 0, []), rfl, Rd.nil _ _ _, by simp, fun i => by simp⟩
  · simp [Value.cells] at hcs
    obtain ⟨rfl, rfl, rfl⟩ := hcs
    simp only [if_true] at hz
    have hlen : (zs.take len0).length = len0 := by rw [List.length_take]; omega
    refine ⟨(some x, cap0, zs.take len0), by simp [hlen], ?_, by rw [hlen]; omega, fun i => ?_⟩
    · intro h0
      obtain ⟨b, o, e, hb, hc⟩ := rd_of_cells (len := len0) (by omega) hcell (by rw [hlen] at h0; exact h0)
      subst e
      exact ⟨b, o, rfl, hb, fun i hi => hc i (by rw [hlen] at hi; exact hi)⟩
    · exact range_i64 (fun n hn => hwz n (List.mem_of_mem_take hn)) i

end
end Go.Proofs.YtkdmhlbmhjolcaaDoor
