/-
  The code of bytes as the walks take it.
-/
import Derived.Test.YtkdmhlbmhjolcaaDoorFrame
namespace Go.Proofs.YtkdmhlbmhjolcaaDoor
open Go.ChangeShapes Go.WideShapes Go.ChangeAt Go.RowKit Go.Joins

/-- The slice with the address A reads as the bytes xs, in blocks below B. -/
def RdB (w : World) (B : Nat) (A : Option Addr) (xs : List Int) : Prop :=
  0 < xs.length → ∃ b o, A = some ⟨b, o, none⟩ ∧ b < B ∧ ∀ i, i < xs.length → w.cell? ⟨b, o + i, none⟩ = some (.int .u8 (xs[i]?.getD 0))
def Bytes (xs : List Int) : Prop := ∀ i : Nat, 0 ≤ xs[i]?.getD 0 ∧ xs[i]?.getD 0 ≤ 255
/-- a slice of bytes: its address, its capacity, its bytes -/
def ArgBytes (w : World) (v : Value) (x : Option Addr × Nat × List Int) : Prop := v = .slice x.1 x.2.2.length x.2.1 ∧ RdB w w.heap.size x.1 x.2.2 ∧ x.2.2.length ≤ maxLen ∧ Bytes x.2.2 ∧ x.2.2.length ≤ x.2.1

section
variable {H : Type} {enc : TypeId × Value → H} {W : World} {base : Nat} {v : Value} {d : DataW H} {p : List MemPlace}
theorem rdB_of_cells {w : World} {a : Addr} {zs : List Int} {len : Nat} (hl : len ≤ zs.length) (hcell : ∀ i, i < zs.length → w.cell? (a.add i) = some (.int .u8 (zs.getD i 0))) :
    0 < len → ∃ b o, a = ⟨b, o, none⟩ ∧ b < w.heap.size ∧ ∀ i, i < len → w.cell? ⟨b, o + i, none⟩ = some (.int .u8 ((zs.take len)[i]?.getD 0)) := rd_of_cells hl hcell

theorem open_bytes (hv : Value.okWide Tryd.prog W .any base 32 v) (h : DataW.Trod enc Tryd.prog W 0 (fun _ => true) true 32 v d p) : ∃ x, ArgBytes W v x := by
  obtain ⟨a0, len0, cap0, rfl⟩ := okWide_slice Tryd.underlying32 hv
  obtain ⟨fuel, hf⟩ := h
  rcases ChangeShapes.open_ints Tryd.underlying32 Tryd.underlying5 (by kernel_rfl) hf with ⟨hcs, _⟩ | ⟨x, l, c, zs, hcs, hx, hl, hm, hz, _, hcell, hwz⟩
  · simp [Value.cells] at hcs
    obtain ⟨rfl, rfl, rfl⟩ := hcs
    exact ⟨(none, 0, []), rfl, fun h => absurd h (by simp), by simp, fun i => by simp, by simp⟩
  · simp [Value.cells] at hcs
    obtain ⟨rfl, rfl, rfl⟩ := hcs
    simp only [if_true] at hz
    have hlen : (zs.take len0).length = len0 := by rw [List.length_take]; omega
    refine ⟨(some x, cap0, zs.take len0), by simp [hlen], ?_, by rw [hlen]; omega, fun i => ?_, by rw [hlen]; omega⟩
    · intro h0
      obtain ⟨b, o, e, hb, hc⟩ := rdB_of_cells (len := len0) (by omega) hcell (by rw [hlen] at h0; exact h0)
      subst e
      exact ⟨b, o, rfl, hb, fun i hi => hc i (by rw [hlen] at hi; exact hi)⟩
    · exact range_u8 (fun n hn => hwz n (List.mem_of_mem_take hn)) i
end
end Go.Proofs.YtkdmhlbmhjolcaaDoor
