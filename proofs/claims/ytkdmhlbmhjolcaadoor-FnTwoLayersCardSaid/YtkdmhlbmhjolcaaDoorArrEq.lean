/-
  A block of sixteen numbers equals itself.
-/
import Derived.Test.YtkdmhlbmhjolcaaDoorArr8
import Derived.Laws.StructEq
import Derived.Laws.Tables
namespace Go.Proofs.YtkdmhlbmhjolcaaDoor
open Go.RowKit

set_option maxRecDepth 100000 in
set_option maxHeartbeats 4000000 in
theorem eq_self (xs : List Int) (hx : xs.length = 16) (w : World) : (Op.equalIn 10000 22 (.agg (arr xs)) (.agg (arr xs))).run Tryd.prog w = .ok true w := by
  obtain ⟨x0, x1, x2, x3, x4, x5, x6, x7, x8, x9, x10, x11, x12, x13, x14, x15, rfl⟩ := list16 xs hx
  have u3 := Tryd.underlying3
  have a3 := Tryd.isAgg3
  have z3 := Tryd.sizeOf3
  rw [show (10000 : Nat) = 9999 + 1 from rfl, Op.equalIn]
  simp only [Sem.run_bind, run_underlying Tryd.underlying22, Result.andThen_ok, arr, List.map_cons, List.map_nil]
  simp only [Std.Legacy.Range.forIn_eq_forIn_range', Std.Legacy.Range.size, Nat.sub_zero, Nat.add_sub_cancel, Nat.div_one, List.range'_succ, List.range'_zero, List.forIn_cons, List.forIn_nil]
  go_simp
end Go.Proofs.YtkdmhlbmhjolcaaDoor
