/-
  Lists of truth values that the call has made: 'make([]bool, n)', read and written.
-/
import Derived.Test.YtnmegieibcmhcaaAppend
namespace Go.Proofs.Ytnmegieibcmhcaa
open Go.RowKit

theorem info_bool : (Try.prog.info? 4).map (fun i => (i.zero, i.size, i.bytes)) = some (some (.bool false), 1, 1) := by kernel_rfl

/-- The slice value v of length n holds the truth values ds in memory from block B on that is not frozen. -/
def OwnB (w : World) (B : Nat) (v : Value) (n : Nat) (ds : List Bool) : Prop := ds.length = n ∧ w.ownsRow B 4 1 v n (ds.map Value.bool)
section
variable {w w' : World} {B B' g c n : Nat} {v : Value} {A : Option Addr} {ds : List Bool}
theorem OwnB.len (h : OwnB w B v n ds) : ds.length = n := h.1
theorem OwnB.form' (h : OwnB w B v n ds) : (v = .slice none 0 0 ∧ n = 0) ∨ ∃ g c, v = .slice (some ⟨g, 0, none⟩) n c ∧ B ≤ g ∧ g < w.heap.size ∧ n ≤ c ∧ c ≤ maxLen := by
  rcases h.2.2 with h' | ⟨g, cap, cur, h', hB, hg, hn, hm, _⟩
  · exact .inl h'
  · refine .inr ⟨_, _, h', hB, ?_, hn, hm⟩
    rcases Nat.lt_or_ge g w.heap.size with hlt | hge
    · exact hlt
    · rw [Array.getElem?_eq_none hge] at hg; cases hg
theorem OwnB.q (h : OwnB w B v n ds) (hq : Q w w') : OwnB w' B v n ds :=
  ⟨h.1, h.2.kept (w' := w') (row := none) ⟨hq.os, hq.tape, hq.output, hq.size, fun k hk _ => hq.block k hk⟩ (by cases v.ownBlock <;> simp)⟩
theorem OwnB.drewN (h : OwnB w B v n ds) (k : Nat) : OwnB (w.drewN k) B v n ds := h.q ((Q.refl w).drewN k)
theorem OwnB.alloc (h : OwnB w B v n ds) (o : Obj) : OwnB (w.alloc o) B v n ds := h.q ((Q.refl w).alloc o)
theorem OwnB.at (h : OwnB w B (.slice (some ⟨g, 0, none⟩) n c) n ds) (k : Nat) (hk : k < n) : w.cell? ⟨g, k, none⟩ = some (.bool (ds[k]?.getD false)) := by
  have := World.ownsRow.cellAt h.2 k (by omega)
  rw [this]
  have := h.1
  simp [show k < ds.length by omega]
theorem OwnB.free (h : OwnB w B (.slice (some ⟨g, 0, none⟩) n c) n ds) (k : Nat) : w.frozen? ⟨g, k, none⟩ = false := World.ownsRow.frozenAt h.2 k
theorem OwnB.set (h : OwnB w B (.slice (some ⟨g, 0, none⟩) n c) n ds) (k : Nat) (x : Bool) : OwnB (w.setCell ⟨g, k, none⟩ (.bool x)) B (.slice (some ⟨g, 0, none⟩) n c) n (ds.set k x) := by
  refine ⟨by rw [List.length_set]; exact h.1, ?_⟩
  rw [List.map_set]
  exact (World.ownsRow.stored h.2 k _).1
theorem OwnB.block (h : OwnB w B (.slice (some ⟨g, 0, none⟩) n c) n ds) (hn : 0 < n) : B ≤ g ∧ g < w.heap.size := by
  rcases h.form' with ⟨h', _⟩ | ⟨_, _, h', hB, hg, _⟩
  · cases h'
  · cases h'; exact ⟨hB, hg⟩
end

/-- 'make([]bool, n)' -/
theorem wpList_make_bool {w : World} {ops : Array Oper} {rest : List Oper} {o : Oper} {a : Act} {Q' : Exit → Act → World → Prop} (hgd : o.guard = none) (l c : Operand) (ho : o.op = Op.makeSlice 59 l c)
    (W0 : World) (n : Nat) (L C : Int) (hl : a.eval l = .int .i64 L) (hc : a.eval c = .int .i64 C) (hL : L = (n : Int)) (hC : C = (n : Int)) (hn : n ≤ 1000000000000) (hq : Q W0 w)
    (h : ∀ w', OwnB w' w.heap.size (.slice (some ⟨w.heap.size, 0, none⟩) n n) n (List.replicate n false) → Q W0 w' → w.heap.size < w'.heap.size → wpList Try.prog ops Q' rest (a.put o.dst (.slice (some ⟨w.heap.size, 0, none⟩) n n)) w') : wpList Try.prog ops Q' (o :: rest) a w := by
  obtain ⟨i0, hi, hz0, hz1, hz2⟩ := info_parts info_bool
  refine wpList_make_full w hgd l c 59 ho w.heap.size 4 i0 (.bool false) 1 Try.underlying59 hi hz0 hz1 .i64 .i64 L C n hl hc hL hC (by rw [hz2]; omega) (by unfold maxLen; omega) (Nat.le_refl _) ?_
  intro w' h1 h2
  have ho : OwnB w' w.heap.size (.slice (some ⟨w.heap.size, 0, none⟩) n n) n (List.replicate n false) := ⟨by simp, by simpa [Value.cells, toList_madeCells_one] using h1⟩
  refine h w' ho (hq.trans (Q.of_none h2)) ?_
  rcases ho.form' with ⟨h', _⟩ | ⟨_, _, h', _, hg, _⟩
  · cases h'
  · cases h'; exact hg
end Go.Proofs.Ytnmegieibcmhcaa
