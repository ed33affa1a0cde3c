/-
  Words on worlds and lists that the other texts of this claim use. Nothing of the program is named here.
-/
import Derived.WalkKit
import Derived.WalkSpells
import Derived.WalkLawsBesides
import Derived.Lib.Hide
import Derived.Deep.QuietTactic
import Derived.BigQuiet
import Derived.ChangeSame
import Derived.OpenShut
namespace Go.Proofs.YtkdmhlbmhjolcaaDoor
open Go.RowKit Go.WideShapes Go.ChangeShapes

/-- What was there reads as it did; there may be new blocks. -/
def Q (w w' : World) : Prop := Below w.heap.size w w'
theorem Q.refl (w : World) : Q w w := Below.refl _ _
theorem Q.trans {a b c : World} (h : Q a b) (k : Q b c) : Q a c := Below.trans h (Below.mono k h.size)
theorem Q.drewN {a w : World} (h : Q a w) (n : Nat) : Q a (w.drewN n) := ⟨h.os, h.tape, h.output, h.size, h.block⟩
theorem Q.drew {a w : World} (h : Q a w) : Q a w.drew := ⟨h.os, h.tape, h.output, h.size, h.block⟩
theorem Q.alloc {a w : World} (h : Q a w) (o : Obj) : Q a (w.alloc o) := Below.alloc h h.size o
theorem Q.set {a w : World} (h : Q a w) {p : Addr} (hp : a.heap.size ≤ p.block) (u : Value) : Q a (w.setCell p u) := Below.setCell h hp u
theorem Q.size {a w : World} (h : Q a w) : a.heap.size ≤ w.heap.size := Below.size h
theorem Q.cell {a w : World} (h : Q a w) : ∀ b o, b < a.heap.size → w.cell? ⟨b, o, none⟩ = a.cell? ⟨b, o, none⟩ := fun b o hb => Below.cell (p := ⟨b, o, none⟩) h hb
theorem Q.frozen {a w : World} (h : Q a w) : ∀ b o, b < a.heap.size → w.frozen? ⟨b, o, none⟩ = a.frozen? ⟨b, o, none⟩ := fun b o hb => Below.frozen (p := ⟨b, o, none⟩) h hb
theorem Q.of_none {w w' : World} (h : w.grownBy w' none) : Q w w' := ⟨h.os, h.tape, h.output, h.size, fun k hk => h.block k hk (by simp)⟩

/-- Between w and w' nothing has turned below the blocks that a has, and there may be new blocks (a: the world in which the call began). -/
theorem Q.grown {a w w' : World} {row : Option Nat} (h : Q a w) (hg : w.grownBy w' row) (hr : ∀ k, row = some k → a.heap.size ≤ k) : Q a w' := Below.grown h hg h.size hr

/-- Block g holds just the cells cs. -/
def Blk (w : World) (g : Nat) (t : TypeId) (cs : Array Value) : Prop := w.heap[g]? = some (.cells cs t (0, 0))
section
variable {w w' : World} {g : Nat} {t : TypeId} {cs : Array Value}
theorem Blk.lt (h : Blk w g t cs) : g < w.heap.size := by
  rcases Nat.lt_or_ge g w.heap.size with hlt | hge
  · exact hlt
  · unfold Blk at h; rw [Array.getElem?_eq_none hge] at h; cases h
theorem Blk.cell (h : Blk w g t cs) : ∀ i, w.cell? ⟨g, i, none⟩ = cs[i]? := fun i => cell_of_row w g i cs t (0, 0) h
theorem Blk.free (h : Blk w g t cs) : ∀ i, w.frozen? ⟨g, i, none⟩ = false := fun i => by
  unfold Blk at h
  simp [World.frozen?, h]
theorem Blk.new (w : World) (t : TypeId) (cs : Array Value) : Blk (w.alloc (.cells cs t)) w.heap.size t cs := heap_alloc_new w _
theorem Blk.q (h : Blk w g t cs) (hq : Q w w') : Blk w' g t cs := (hq.block g h.lt).trans h
theorem Blk.qcell (h : Blk w g t cs) (hq : Q w w') : ∀ i, w'.cell? ⟨g, i, none⟩ = cs[i]? := (h.q hq).cell
theorem Blk.qfree (h : Blk w g t cs) (hq : Q w w') : ∀ i, w'.frozen? ⟨g, i, none⟩ = false := (h.q hq).free
theorem Blk.drewN (h : Blk w g t cs) (n : Nat) : Blk (w.drewN n) g t cs := h
theorem Blk.alloc (h : Blk w g t cs) (o : Obj) : Blk (w.alloc o) g t cs := h.q ((Q.refl w).alloc o)
theorem Blk.set (h : Blk w g t cs) (i : Nat) (u : Value) : Blk (w.setCell ⟨g, i, none⟩ u) g t (cs.setIfInBounds i u) := by
  unfold Blk at h ⊢
  simp [World.setCell, Array.getElem?_modify, h]
theorem Blk.far (h : Blk w g t cs) {p : Addr} (hp : g ≠ p.block) (u : Value) : Blk (w.setCell p u) g t cs := (Below.heap_setCell w p u g hp).trans h
theorem Blk.grown {row : Option Nat} (h : Blk w g t cs) (hb : w.grownBy w' row) (hg : some g ≠ row) : Blk w' g t cs := (hb.block g h.lt hg).trans h
end

/-- The slice with the address A reads as the numbers xs, in blocks below B. -/
def Rd (w : World) (B : Nat) (A : Option Addr) (xs : List Int) : Prop :=
  0 < xs.length → ∃ b o, A = some ⟨b, o, none⟩ ∧ b < B ∧ ∀ i, i < xs.length → w.cell? ⟨b, o + i, none⟩ = some (.int .i64 (xs[i]?.getD 0))
theorem Rd.nil (w : World) (B : Nat) (A : Option Addr) : Rd w B A [] := fun h => absurd h (by simp)
theorem Rd.keep {w w' : World} {B : Nat} {A : Option Addr} {xs : List Int} (h : Rd w B A xs) (hk : ∀ b o, b < B → w'.cell? ⟨b, o, none⟩ = w.cell? ⟨b, o, none⟩) : Rd w' B A xs := fun hn => by
  obtain ⟨b, o, rfl, hb, hc⟩ := h hn
  exact ⟨b, o, rfl, hb, fun i hi => (hk b _ hb).trans (hc i hi)⟩
theorem Rd.more {w : World} {B B' : Nat} {A : Option Addr} {xs : List Int} (h : Rd w B A xs) (hB : B ≤ B') : Rd w B' A xs := fun hn => by
  obtain ⟨b, o, rfl, hb, hc⟩ := h hn
  exact ⟨b, o, rfl, by omega, hc⟩
theorem Rd.q {w w' : World} {B : Nat} {A : Option Addr} {xs : List Int} (h : Rd w B A xs) (hq : Q w w') (hB : B ≤ w.heap.size) : Rd w' B A xs :=
  h.keep fun b o hb => hq.cell b o (by omega)
theorem Rd.drewN {w : World} {B : Nat} {A : Option Addr} {xs : List Int} (h : Rd w B A xs) (k : Nat) : Rd (w.drewN k) B A xs := h
theorem Rd.alloc {w : World} {B : Nat} {A : Option Addr} {xs : List Int} (h : Rd w B A xs) (hB : B ≤ w.heap.size) (o : Obj) : Rd (w.alloc o) B A xs := h.q ((Q.refl w).alloc o) hB
theorem Rd.grown {w w' : World} {B : Nat} {A : Option Addr} {xs : List Int} (h : Rd w B A xs) {row : Option Nat} (hg : w.grownBy w' row) (hB : B ≤ w.heap.size) (hr : ∀ g, row = some g → B ≤ g) : Rd w' B A xs :=
  h.keep fun b o hb => World.cell?_of_block (a := ⟨b, o, none⟩) (hg.block b (by omega) (fun e => by have := hr _ e.symm; omega))

/-- The slice value v of length n holds the numbers xs in memory from block B on that is not frozen. -/
def Own (w : World) (B : Nat) (v : Value) (n : Nat) (xs : List Int) : Prop := xs.length = n ∧ w.ownsRow B 3 1 v n (xs.map (Value.int .i64))
section
variable {w w' : World} {B B' g c n : Nat} {v : Value} {A : Option Addr} {xs : List Int}
theorem Own.nil (w : World) (B : Nat) : Own w B (.slice none 0 0) 0 [] := ⟨rfl, World.ownsRow_nil _ _ _ _⟩
/-- '[]int{}' -/
theorem Own.lit0 (w : World) (B : Nat) (hB : B ≤ w.heap.size) : Own (w.alloc (.cells #[] 3)) B (.slice (some ⟨w.heap.size, 0, none⟩) 0 0) 0 [] :=
  ⟨rfl, World.ownsRow_lit w #[] 0 hB (Nat.zero_le _) rfl⟩
theorem Own.len (h : Own w B v n xs) : xs.length = n := h.1
theorem Own.form (h : Own w B v n xs) : ∃ A c, v = .slice A n c := by
  rcases h.2.2 with ⟨h', hn⟩ | ⟨g, cap, cur, h', _⟩
  · exact ⟨none, 0, by rw [h', hn]⟩
  · exact ⟨_, _, h'⟩
theorem Own.form' (h : Own w B v n xs) : (v = .slice none 0 0 ∧ n = 0) ∨ ∃ g c, v = .slice (some ⟨g, 0, none⟩) n c ∧ B ≤ g ∧ g < w.heap.size ∧ n ≤ c ∧ c ≤ maxLen := by
  rcases h.2.2 with h' | ⟨g, cap, cur, h', hB, hg, hn, hm, _⟩
  · exact .inl h'
  · refine .inr ⟨_, _, h', hB, ?_, hn, hm⟩
    rcases Nat.lt_or_ge g w.heap.size with hlt | hge
    · exact hlt
    · rw [Array.getElem?_eq_none hge] at hg; cases hg
theorem Own.le (h : Own w B v n xs) : n ≤ maxLen := by
  rcases h.form' with ⟨_, h'⟩ | ⟨_, _, _, _, _, h1, h2⟩
  · rw [h']; exact Nat.zero_le _
  · exact Nat.le_trans h1 h2
theorem Own.q (h : Own w B v n xs) (hq : Q w w') : Own w' B v n xs :=
  ⟨h.1, h.2.kept (w' := w') (row := none) ⟨hq.os, hq.tape, hq.output, hq.size, fun k hk _ => hq.block k hk⟩ (by cases v.ownBlock <;> simp)⟩
theorem Own.drewN (h : Own w B v n xs) (k : Nat) : Own (w.drewN k) B v n xs := h.q ((Q.refl w).drewN k)
theorem Own.alloc (h : Own w B v n xs) (o : Obj) : Own (w.alloc o) B v n xs := h.q ((Q.refl w).alloc o)
theorem Own.drew (h : Own w B v n xs) : Own w.drew B v n xs := h.q ((Q.refl w).drew)
theorem Own.block (h : Own w B (.slice (some ⟨g, 0, none⟩) n c) n xs) : B ≤ g ∧ g < w.heap.size := by
  rcases h.form' with ⟨h', _⟩ | ⟨_, _, h', hB, hg, _⟩
  · cases h'
  · cases h'; exact ⟨hB, hg⟩
theorem Own.at (h : Own w B (.slice (some ⟨g, 0, none⟩) n c) n xs) (k : Nat) (hk : k < n) : w.cell? ⟨g, k, none⟩ = some (.int .i64 (xs[k]?.getD 0)) := by
  have := World.ownsRow.cellAt h.2 k (by omega)
  rw [this]
  have := h.1
  simp [show k < xs.length by omega]
theorem Own.free (h : Own w B (.slice (some ⟨g, 0, none⟩) n c) n xs) (k : Nat) : w.frozen? ⟨g, k, none⟩ = false := World.ownsRow.frozenAt h.2 k
theorem Own.set (h : Own w B (.slice (some ⟨g, 0, none⟩) n c) n xs) (k : Nat) (x : Int) : Own (w.setCell ⟨g, k, none⟩ (.int .i64 x)) B (.slice (some ⟨g, 0, none⟩) n c) n (xs.set k x) := by
  refine ⟨by rw [List.length_set]; exact h.1, ?_⟩
  rw [List.map_set]
  exact (World.ownsRow.stored h.2 k _).1
theorem Own.rd (h : Own w B (.slice A n c) n xs) : Rd w w.heap.size A xs := fun hn => by
  have hl := h.1
  rcases h.form' with ⟨h', hz⟩ | ⟨g, cap, h', hB, hg, _⟩
  · omega
  · have hA : A = some ⟨g, 0, none⟩ := by injection h'
    subst hA
    refine ⟨g, 0, rfl, hg, fun i hi => ?_⟩
    rw [Nat.zero_add]
    exact h.at i (by omega)
theorem Own.mono (h : Own w B v n xs) (hB : B' ≤ B) : Own w B' v n xs := by
  obtain ⟨h0, h1, h2⟩ := h
  refine ⟨h0, h1, ?_⟩
  rcases h2 with h2 | ⟨g, cap, cur, hv, hg, r⟩
  · exact .inl h2
  · exact .inr ⟨g, cap, cur, hv, by omega, r⟩
/-- Behind writes to another row. -/
theorem Own.other (h : Own w B v n xs) {row : Option Nat} (hg : w.grownBy w' row) (hne : v.ownBlock = none ∨ v.ownBlock ≠ row) : Own w' B v n xs := ⟨h.1, h.2.kept hg hne⟩
/-- Two rows, the second one made later. -/
theorem Own.ne {w2 : World} {B2 n2 : Nat} {v2 : Value} {ys : List Int} (h : Own w B v n xs) (h' : Own w2 B2 v2 n2 ys) (hB : w.heap.size ≤ B2) : v.ownBlock = none ∨ v.ownBlock ≠ v2.ownBlock := by
  cases hv : v.ownBlock with
  | none => exact .inl rfl
  | some k =>
    refine .inr fun e => ?_
    have h1 := (h.2.lt k hv).2
    have h2 := (h'.2.lt k e.symm).1
    omega
theorem Own.ne' {w2 : World} {B2 n2 : Nat} {v2 : Value} {ys : List Int} (h : Own w B v n xs) (h' : Own w2 B2 v2 n2 ys) (hB : w.heap.size ≤ B2) : v2.ownBlock = none ∨ v2.ownBlock ≠ v.ownBlock := by
  cases hv : v2.ownBlock with
  | none => exact .inl rfl
  | some k =>
    refine .inr fun e => ?_
    have h1 := (h.2.lt k e.symm).2
    have h2 := (h'.2.lt k hv).1
    omega
/-- What a call has written into a row of its own. -/
theorem Own.qmark {a : World} (h : Own w B v n xs) (hq : Q a w) (hB : a.heap.size ≤ B) (hg : w.grownBy w' v.ownBlock) : Q a w' :=
  hq.grown hg fun k hk => Nat.le_trans hB (h.2.lt k hk).1
/-- A store into another block. -/
theorem Own.far (h : Own w B v n xs) {p : Addr} (hp : p.block < B) (u : Value) : Own (w.setCell p u) B v n xs := ⟨h.1, ownsRow_setCell_below h.2 hp u⟩
end

/-- Facts that the walk must not see. -/
theorem mkT {n lo hi : Int} (h : lo ≤ n ∧ n ≤ hi) : Hid (decide (lo ≤ n ∧ n ≤ hi) = true) := decide_eq_true h
theorem mkF {n lo hi : Int} (h : ¬ (lo ≤ n ∧ n ≤ hi)) : Hid (decide (lo ≤ n ∧ n ≤ hi) = false) := decide_eq_false h
theorem hid_ (p : Prop) (h : p) : Hid p := h

theorem grownBy_set {a w : World} {g : Nat} (h : a.grownBy w (some g)) (k : Nat) (u : Value) : a.grownBy (w.setCell ⟨g, k, none⟩ u) (some g) :=
  ⟨h.os, h.tape, h.output, by simpa [World.setCell] using h.size, fun i hi hne => (Below.heap_setCell w ⟨g, k, none⟩ u i (fun e => hne (by rw [e]))).trans (h.block i hi hne)⟩
theorem grownBy_drewN {a w : World} {row : Option Nat} (h : a.grownBy w row) (n : Nat) : a.grownBy (w.drewN n) row := ⟨h.os, h.tape, h.output, h.size, h.block⟩
theorem take_succ_getD (xs : List Int) (k : Nat) (h : k < xs.length) : xs.take (k + 1) = xs.take k ++ [xs[k]?.getD 0] := by
  rw [List.take_succ_eq_append_getElem h]; simp [h]

end Go.Proofs.YtkdmhlbmhjolcaaDoor
