/-
  The arguments of the laws as the walks take them: what a value of each parameter's type holds.
-/
import Derived.Test.YtjpfagkepmkeaaaRows
import Derived.Test.YtjpfagkepmkeaaaLib
import Derived.ProofKit
import Derived.OpenShut
import Derived.ShutString
import Derived.ChangeOld
import Derived.Lib.SmallJoins
namespace Go.Proofs.Ytjpfagkepmkeaaa
open Go.ChangeShapes Go.WideShapes Go.ChangeAt Go.RowKit Go.Joins

theorem own_knob : ownKnob Try.prog.godebug = none := by kernel_rfl
theorem laid_out : laidOutB Try.prog = true := by kernel_rfl

/-- an int -/
def ArgInt (v : Value) (n : Int) : Prop := v = .int .i64 n ∧ -9223372036854775808 ≤ n ∧ n ≤ 9223372036854775807
/-- a slice of ints: its address, its capacity, its numbers -/
def ArgInts (w : World) (v : Value) (x : Option Addr × Nat × List Int) : Prop := v = .slice x.1 x.2.2.length x.2.1 ∧ Rd w w.heap.size x.1 x.2.2 ∧ x.2.2.length ≤ maxLen ∧ ∀ i : Nat, -9223372036854775808 ≤ x.2.2[i]?.getD 0 ∧ x.2.2[i]?.getD 0 ≤ 9223372036854775807

section
variable {H : Type} {enc : TypeId × Value → H} {W : World} {base : Nat} {v : Value} {d : DataW H} {p : List MemPlace}
theorem open_int (hv : Value.okWide Try.prog W .any base 3 v) (h : DataW.Trod enc Try.prog W 0 (fun _ => true) true 3 v d p) : ∃ n, ArgInt v n := by
  obtain ⟨n, rfl, _, _, hw⟩ := ChangeShapes.open_int Try.underlying3 hv h
  exact ⟨n, rfl, bounds_i64 hw⟩
end
end Go.Proofs.Ytjpfagkepmkeaaa
