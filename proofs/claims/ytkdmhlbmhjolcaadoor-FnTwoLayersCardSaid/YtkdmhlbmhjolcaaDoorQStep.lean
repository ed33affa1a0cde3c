/-
  The program's quantization step.
-/
import Derived.Test.YtkdmhlbmhjolcaaDoorQLaws
namespace Go.Proofs.YtkdmhlbmhjolcaaDoor
open Go.RowKit

set_option maxRecDepth 100000 in
theorem impl_QuantStep (q : Int) (n : Nat) (w : World) (hT : Tb w) (hq : q = (n : Int)) (hn : n < 16) :
    Calls Tryd.prog 24 #[.int .i64 q] w fun e w' => e = .returned (.int .i64 (step n)) ∧ Q w w' := by
  subst hq
  have c1 := hT.at_ n hn
  generalize step n = s at c1 ⊢
  have n16 : (n : Int) < 16 := by omega
  have hv : Hid (decide (0 ≤ (n : Int) ∧ (n : Int) ≤ 15) = true) := decide_eq_true ⟨by omega, by omega⟩
  clear hT
  go_enter Tryd.func24, Tryd.ntmps24
  go_wp2_with fail
  refine (qualityValid _ _ _ hv).mono ?_; rintro e w' ⟨rfl, rfl⟩
  go_wp2_with fail
  go_ret
  exact ⟨rfl, Q.refl _⟩
theorem eqg : Tryd.prog.eqGuardType Tryd.prog.depth 22 = false := by kernel_rfl
end Go.Proofs.YtkdmhlbmhjolcaaDoor
