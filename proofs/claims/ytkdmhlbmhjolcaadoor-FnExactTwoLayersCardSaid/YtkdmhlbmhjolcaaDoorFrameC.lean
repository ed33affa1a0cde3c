/-
  The arguments of the laws on blocks as the walks take them; the table of steps as the rows list it.
-/
import Derived.Test.YtkdmhlbmhjolcaaDoorRows
import Derived.Test.YtkdmhlbmhjolcaaDoorArr10
import Derived.ProofKit
import Derived.OpenShut
import Derived.ChangeOld
import Derived.LaidMore
import Derived.OpenVars
import Derived.Stop.Joined
import Derived.Lib.SmallJoins
import Derived.Lib.LaidTab
namespace Go.Proofs.YtkdmhlbmhjolcaaDoor
open Go.ChangeShapes Go.WideShapes Go.ChangeAt Go.RowKit Go.Joins

theorem own_knob : ownKnob Tryd.prog.godebug = none := by kernel_rfl
theorem laid_out : laidOutB Tryd.prog = true := by kernel_rfl
abbrev quantName : String := "loop.example/videocodec/impl.quantSteps"
theorem gQuant : Tryd.prog.globalNamed quantName = some 0 := by kernel_rfl
theorem tQuant : (Tryd.prog.globals[0]?).map (·.type) = some 22 := by kernel_rfl
def laidQ : List (String × DataW Unit) := [(quantName, Rows.laid_loop_example_videocodec_impl_quantSteps)]
theorem door_met (os : Os) (args : Array Value) : laidMetH Tryd.prog laidQ ((World.doorLaid Tryd.prog 400 os).forCall (fun _ _ => 0) ⟨#[], args, []⟩).memory :=
  laidMetH_of_parts3 (fuel := 8) (laidMet_of_run' 8 (by kernel_rfl) (by kernel_rfl)) (by kernel_rfl) (by kernel_rfl)
theorem tb_of_laid {W : World} (h : laidMetH Tryd.prog laidQ W) : Tb W := by
  rw [MakeChecks.laidMetH_plain _ _ _ (by kernel_rfl)] at h
  have hT : Lib.TabIs Tryd.prog W quantName .i64 steps := Lib.tabIs_of_head gQuant tQuant Tryd.underlying22 Tryd.underlying3 (by kernel_rfl) (by kernel_rfl) h
  have hc : ∀ q, q < 16 → W.cell? ⟨0, q, none⟩ = some (.int .i64 (step q)) := fun q hq => by
    have := hT.cell gQuant q hq
    rw [this]
    unfold step
    rw [List.getD_eq_getElem?_getD]
  refine ⟨?_, hc⟩
  have := World.block_lt_of_cell? W _ (hc 0 (by omega))
  exact this

/-- an int -/
def ArgInt (v : Value) (n : Int) : Prop := v = .int .i64 n ∧ -9223372036854775808 ≤ n ∧ n ≤ 9223372036854775807
/-- a block of sixteen ints -/
def ArgArr (v : Value) (xs : List Int) : Prop := v = .agg (arr xs) ∧ xs.length = 16 ∧ ∀ i : Nat, -9223372036854775808 ≤ xs[i]?.getD 0 ∧ xs[i]?.getD 0 ≤ 9223372036854775807
section
variable {H : Type} {enc : TypeId × Value → H} {W : World} {base : Nat} {v : Value} {d : DataW H} {p : List MemPlace}
theorem open_int (hv : Value.okWide Tryd.prog W .any base 3 v) (h : DataW.Trod enc Tryd.prog W 0 (fun _ => true) true 3 v d p) : ∃ n, ArgInt v n := by
  obtain ⟨n, rfl, _, _, hw⟩ := ChangeShapes.open_int Tryd.underlying3 hv h
  exact ⟨n, rfl, bounds_i64 hw⟩
theorem okWide_arr {P : Program} {w : World} {r : Reach} {b : Nat} {t e : TypeId} {n : Nat} {v : Value} (ht : P.underlying t = some (.array n e)) (h : Value.okWide P w r b t v) : ∃ cs, v = .agg cs ∧ cs.size = P.cellsOf t := by
  simp only [Value.okWide, ht] at h
  obtain ⟨cs, h1, h2, _⟩ := h
  exact ⟨cs, h1, h2⟩
def numOf : Value → Int
  | .int _ n => n
  | _ => 0
theorem open_arr (hv : Value.okWide Tryd.prog W .any base 22 v) (h : DataW.Trod enc Tryd.prog W 0 (fun _ => true) true 22 v d p) : ∃ xs, ArgArr v xs := by
  obtain ⟨fuel, hf⟩ := h
  obtain ⟨cs, rfl, hsz⟩ := okWide_arr Tryd.underlying22 hv
  obtain ⟨ys, m, rfl, _, _, hn, hel⟩ := DataW.trod_array Tryd.underlying22 hf
  have c3 : Tryd.prog.cellsOf 3 = 1 := by kernel_rfl
  have c22 : Tryd.prog.cellsOf 22 = 16 := by kernel_rfl
  rw [c22] at hsz
  have hat : ∀ i, i < 16 → ∃ n, cs[i]? = some (.int .i64 n) ∧ (Lit.int .i64 n).wf = true := fun i hi => by
    have h1 := hel i hi
    rw [c3, Nat.mul_one] at h1
    have hy : ∃ y, ys[i]? = some y := ⟨ys[i]'(by omega), List.getElem?_eq_getElem (by omega)⟩
    obtain ⟨y, hy⟩ := hy
    rw [hy] at h1
    obtain ⟨n, e1, _, e3⟩ := DataW.trod_int Tryd.underlying3 h1
    refine ⟨n, ?_, e3⟩
    have := congrArg (·[0]?) e1
    simpa [Value.cells, List.getElem?_take, List.getElem?_drop] using this
  refine ⟨tab (fun i => numOf (cs[i]?.getD undef)) 16, ?_, length_tab _ _, fun i => ?_⟩
  · congr 1
    apply Array.ext_getElem?
    intro i
    rcases Nat.lt_or_ge i 16 with hi | hi
    · obtain ⟨n, e, _⟩ := hat i hi
      rw [arr_at _ _ (by rw [length_tab]; exact hi), tab_get _ _ _ hi, e]
      rfl
    · rw [Array.getElem?_eq_none (by omega), Array.getElem?_eq_none (by rw [arr_size, length_tab]; exact hi)]
  · rcases Nat.lt_or_ge i 16 with hi | hi
    · obtain ⟨n, e, hw⟩ := hat i hi
      rw [tab_get _ _ _ hi, e]
      exact bounds_i64 hw
    · rw [List.getElem?_eq_none (by rw [length_tab]; exact hi)]
      simp
end
end Go.Proofs.YtkdmhlbmhjolcaaDoor
