/-
  Rows of the call's own between two marks of memory: what a walk carries from world to world.
-/
import Derived.Test.YtkdmhlbmhjolcaaDoorLib
namespace Go.Proofs.YtkdmhlbmhjolcaaDoor
open Go.RowKit

/-- The slice value v of length n holds the numbers xs in memory of its own, in a block from lo on and below hi. -/
def OwnI (w : World) (lo hi : Nat) (v : Value) (n : Nat) (xs : List Int) : Prop := Own w lo v n xs ∧ ∀ k, v.ownBlock = some k → k < hi
section
variable {w w' : World} {lo hi lo' hi' n n' g : Nat} {v v' : Value} {A : Option Addr} {c : Nat} {xs ys : List Int} {t : TypeId} {cs : Array Value}
theorem Own.i (h : Own w lo v n xs) : OwnI w lo w.heap.size v n xs := ⟨h, fun k hk => (h.2.lt k hk).2⟩
theorem OwnI.nil (w : World) (lo hi : Nat) : OwnI w lo hi (.slice none 0 0) 0 [] := ⟨Own.nil _ _, fun k hk => by simp [Value.ownBlock] at hk⟩
theorem OwnI.q (h : OwnI w lo hi v n xs) (hq : Q w w') : OwnI w' lo hi v n xs := ⟨h.1.q hq, h.2⟩
theorem OwnI.rd (h : OwnI w lo hi (.slice A n c) n xs) : Rd w w.heap.size A xs := h.1.rd
theorem OwnI.len (h : OwnI w lo hi v n xs) : xs.length = n := h.1.1
theorem OwnI.form (h : OwnI w lo hi v n xs) : ∃ A c, v = .slice A n c := h.1.form
theorem OwnI.other (h : OwnI w lo hi v n xs) (h' : OwnI w lo' hi' v' n' ys) (hg : w.grownBy w' v'.ownBlock) (hd : hi ≤ lo' ∨ hi' ≤ lo) : OwnI w' lo hi v n xs := by
  refine ⟨h.1.other hg ?_, h.2⟩
  cases hv : v.ownBlock with
  | none => exact .inl rfl
  | some k =>
    refine .inr fun e => ?_
    have h1 := (h.1.2.lt k hv).1
    have h2 := h.2 k hv
    have h3 := (h'.1.2.lt k e.symm).1
    have h4 := h'.2 k e.symm
    omega
theorem Blk.mark (h : Blk w g t cs) (h' : OwnI w lo' hi' v' n' ys) (hg : w.grownBy w' v'.ownBlock) (hd : g < lo' ∨ hi' ≤ g) : Blk w' g t cs :=
  h.grown hg (fun e => by
    have h3 := (h'.1.2.lt g e.symm).1
    have h4 := h'.2 g e.symm
    omega)
theorem Rd.mark {B : Nat} (h : Rd w B A xs) (h' : OwnI w lo' hi' v' n' ys) (hg : w.grownBy w' v'.ownBlock) (hB : B ≤ w.heap.size) (hd : B ≤ lo') : Rd w' B A xs :=
  h.grown hg hB (fun g e => by
    have h3 := (h'.1.2.lt g e).1
    omega)
theorem Blk.newd (w : World) (t : TypeId) (cs : Array Value) : Blk (w.alloc (.cells cs t)).drew w.heap.size t cs := heap_alloc_new w _
theorem Q.mark {a : World} (h : Q a w) (h' : OwnI w lo' hi' v' n' ys) (hg : w.grownBy w' v'.ownBlock) (hd : a.heap.size ≤ lo') : Q a w' := h'.1.qmark h hd hg
theorem OwnI.marked (h' : OwnI w lo' hi' v' n' ys) {zs : List Int} (o : Own w' lo' v' n' zs) : OwnI w' lo' hi' v' n' zs := ⟨o, h'.2⟩
end
end Go.Proofs.YtkdmhlbmhjolcaaDoor
