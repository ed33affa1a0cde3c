/-
  A statement that leaves its order open and whose operations only read what was there, or call functions that make memory of their own: one walk in the order of the text serves every order.
-/
import Derived.Test.YtoipcfpbkjanhaaLib
namespace Go.Proofs.Ytoipcfpbkjanhaa
open Go.RowKit

/-- a world behind w, in which what was there reads as it did -/
structure Aft (w : World) where
  at_ : World
  q : Q w at_
instance (w : World) : Nonempty (Aft w) := ⟨⟨w, Q.refl w⟩⟩
theorem wp_region_aft {P : Program} {id : Nat} {Q' : Exit → Act → World → Prop} {a : Act} {w : World} {l : List Oper} (hm : P.follows .mixedOrders = true) (hB : Region.lexB .any l.toArray = true)
    (h : wpQuiet P l.toArray (fun w' => ∃ x : Aft w, w' = x.at_) (fun a' => ∀ w', (∃ x : Aft w, w' = x.at_) → Q' .normal a' w') l a) : (Code.region id l.toArray true).wp P Q' a w :=
  wp_region_quiet (C := fun w' => ∃ x : Aft w, w' = x.at_) hm hB ⟨⟨_, (Q.refl w).drew⟩, rfl⟩ (by simpa using h)
theorem Calls.aft {P : Program} {f : FuncId} {args : Array Value} {w : World} {x : Aft w} {v : Value}
    (h : Calls P f args x.at_ fun e w' => e = .returned v ∧ Q x.at_ w') : Calls P f args x.at_ fun e w'' => e = .returned v ∧ ∃ y : Aft w, w'' = y.at_ :=
  h.mono fun _ w' ⟨he, hq⟩ => ⟨he, ⟨w', x.q.trans hq⟩, rfl⟩
theorem Blk.aft {w : World} {g : Nat} {t : TypeId} {cs : Array Value} (h : Blk w g t cs) : ∀ (x : Aft w) (i : Nat), x.at_.cell? ⟨g, i, none⟩ = cs[i]? := fun x => h.qcell x.q
end Go.Proofs.Ytoipcfpbkjanhaa
