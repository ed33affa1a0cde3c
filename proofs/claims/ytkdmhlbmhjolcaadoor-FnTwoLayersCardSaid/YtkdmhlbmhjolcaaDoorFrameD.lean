/-
  The table of steps as the rows list it, for the laws that draw (FrameC without what Frame holds).
-/
import Derived.Test.YtkdmhlbmhjolcaaDoorRows
import Derived.Test.YtkdmhlbmhjolcaaDoorArr10
import Derived.Test.YtkdmhlbmhjolcaaDoorFrameB
import Derived.ProofKit
import Derived.OpenShut
import Derived.ChangeOld
import Derived.LaidMore
import Derived.OpenVars
import Derived.Stop.Joined
import Derived.Lib.SmallJoins
import Derived.Lib.LaidTab
namespace Go.Proofs.YtkdmhlbmhjolcaaDoor
open Go.ChangeShapes Go.WideShapes Go.ChangeAt Go.RowKit Go.Joins

abbrev quantName : String := "loop.example/videocodec/impl.quantSteps"
theorem gQuant : Tryd.prog.globalNamed quantName = some 0 := by kernel_rfl
theorem tQuant : (Tryd.prog.globals[0]?).map (·.type) = some 22 := by kernel_rfl
def laidQ : List (String × DataW Unit) := [(quantName, Rows.laid_loop_example_videocodec_impl_quantSteps)]
theorem door_met (os : Os) (args : Array Value) : laidMetH Tryd.prog laidQ ((World.doorLaid Tryd.prog 400 os).forCall (fun _ _ => 0) ⟨#[], args, []⟩).memory :=
  laidMetH_of_parts3 (fuel := 8) (laidMet_of_run' 8 (by kernel_rfl) (by kernel_rfl)) (by kernel_rfl) (by kernel_rfl)
theorem tb_of_laid {W : World} (h : laidMetH Tryd.prog laidQ W) : Tb W := by
  rw [MakeChecks.laidMetH_plain _ _ _ (by kernel_rfl)] at h
  have hT : Lib.TabIs Tryd.prog W quantName .i64 steps := Lib.tabIs_of_head gQuant tQuant Tryd.underlying22 Tryd.underlying3 (by kernel_rfl) (by kernel_rfl) h
  have hc : ∀ q, q < 16 → W.cell? ⟨0, q, none⟩ = some (.int .i64 (step q)) := fun q hq => by
    have := hT.cell gQuant q hq
    rw [this]
    unfold step
    rw [List.getD_eq_getElem?_getD]
  refine ⟨?_, hc⟩
  have := World.block_lt_of_cell? W _ (hc 0 (by omega))
  exact this

end Go.Proofs.YtkdmhlbmhjolcaaDoor
