/-
  NARROWER THAN 'FOR EVERY INPUT', by the rows' own cells (each row's printed sentence says how): FnExactCoefficientError: laid · FnExactJoinLayers: laid · FnExactTwoLayers: laid · FnQualityLadder: laid · FnCoefficientError: laid · FnJoinLayers: laid · FnTwoLayers: laid.
  DERIVED. THE GIVEN ROWS OF THIS SEAT. 7 by the template 'for every input the law returns true; each argument reads behind the call as it read before'; 0 by the template 'total and deterministic' (their statements: YtkdmhlbmhjolcaaDoorTotals.lean).
  GIVEN WITH THE SEED: the statements are not yours to turn. If you find one false, say at which input.
  Laid BY PROGRAM, IN A SANDBOX (cutbox-rows.mjs): the forced cells as the released guide's own fill.sh prints them over the translation 558df4f20255752e… (all of the seat's roots in one cut). By AI agents, Wed Nov 11 2026. No macro, syntax, notation, axiom, sorry.
-/
import Derived.Test.YtkdmhlbmhjolcaaDoorChecked
import GoSem.Claim
import GoSem.ClaimJoined
import GoSem.ClaimMapViews
import Derived.JoinedTies
import Derived.KernelRfl
namespace Go.Proofs.YtkdmhlbmhjolcaaDoor
/- THE CELL 'sum', in the pinned program and in every row, IS THE sha256 OF THE DUMP (.gsa) THAT YtkdmhlbmhjolcaaDoorProg.lean LOADS. Nothing in Lean hashes anything: it is a label: what it is worth is what the hold of that sum in a sandbox is worth. -/
noncomputable def Tryd.pinned : Pinned := { name := "ytkdmhlbmhjolcaadoor", sum := "558df4f20255752e5232f58966e73e6a2a018b6339d1a474b1fe9d464ba31aab", checked := Tryd.checked }
namespace Rows
def none {H : Type} : Left H := { results := [], args := [] }

/- WHAT THE LISTED PACKAGE-LEVEL VARIABLES READ AS WHEN THE CALL BEGINS. Each datum BY PROGRAM (the guide's laid-datum.mjs) off the statement by which the dump's own 'gosem.cut.vars' lays the variable. In a bare row this is a premise. The card (YtkdmhlbmhjolcaaDoorCards.lean) ties it to the program's text. -/
def laid_loop_example_videocodec_impl_quantSteps {H : Type} : DataW H := .agg [.lit (.int .i64 1), .lit (.int .i64 2), .lit (.int .i64 4), .lit (.int .i64 8), .lit (.int .i64 12), .lit (.int .i64 16), .lit (.int .i64 24), .lit (.int .i64 32), .lit (.int .i64 48), .lit (.int .i64 64), .lit (.int .i64 96), .lit (.int .i64 128), .lit (.int .i64 192), .lit (.int .i64 256), .lit (.int .i64 384), .lit (.int .i64 512)]

/-- 'laws.FnExactCoefficientError': WHATEVER THE INPUT: true; the input reads as it did. -/
def fnExactCoefficientErrorSpec : ChangeSpec := { name := "fnExactCoefficientError", vars := ["loop.example/videocodec/impl.quantSteps"], fn := fun _ => fun
  | [d1, d2, d3, g1] => { results := [.lit (.bool true)], args := [d1, d2, d3], vars := [g1] }
  | _ => none }
def fnExactCoefficientErrorRow : OpenClaim := { program := "ytkdmhlbmhjolcaadoor", sum := "558df4f20255752e5232f58966e73e6a2a018b6339d1a474b1fe9d464ba31aab", func := "loop.example/videocodec/laws.FnExactCoefficientError", spec := "fnExactCoefficientError", named := ["loop.example/videocodec/impl.quantSteps"], apart := false, laid := [("loop.example/videocodec/impl.quantSteps", laid_loop_example_videocodec_impl_quantSteps)] }
def FnExactCoefficientErrorSaid : Prop := fnExactCoefficientErrorRow.holds Tryd.pinned (OpenSpec.ofChange fnExactCoefficientErrorSpec)

/-- ITS FALSE NEIGHBOUR: 'it returns false'. Refute it at one input. -/
def fnExactCoefficientErrorWrong : ChangeSpec := { name := "fnExactCoefficientError", vars := ["loop.example/videocodec/impl.quantSteps"], fn := fun _ => fun
  | [d1, d2, d3, g1] => { results := [.lit (.bool false)], args := [d1, d2, d3], vars := [g1] }
  | _ => none }
def FnExactCoefficientErrorWrongFalsely : Prop := fnExactCoefficientErrorRow.holds Tryd.pinned (OpenSpec.ofChange fnExactCoefficientErrorWrong)

/-- 'laws.FnExactJoinLayers': WHATEVER THE INPUT: true; the input reads as it did. -/
def fnExactJoinLayersSpec : ChangeSpec := { name := "fnExactJoinLayers", vars := ["loop.example/videocodec/impl.quantSteps"], fn := fun _ => fun
  | [d1, d2, d3, d4, g1] => { results := [.lit (.bool true)], args := [d1, d2, d3, d4], vars := [g1] }
  | _ => none }
def fnExactJoinLayersRow : OpenClaim := { program := "ytkdmhlbmhjolcaadoor", sum := "558df4f20255752e5232f58966e73e6a2a018b6339d1a474b1fe9d464ba31aab", func := "loop.example/videocodec/laws.FnExactJoinLayers", spec := "fnExactJoinLayers", named := ["loop.example/videocodec/impl.quantSteps"], apart := false, laid := [("loop.example/videocodec/impl.quantSteps", laid_loop_example_videocodec_impl_quantSteps)] }
def FnExactJoinLayersSaid : Prop := fnExactJoinLayersRow.holds Tryd.pinned (OpenSpec.ofChange fnExactJoinLayersSpec)

/-- ITS FALSE NEIGHBOUR: 'it returns false'. Refute it at one input. -/
def fnExactJoinLayersWrong : ChangeSpec := { name := "fnExactJoinLayers", vars := ["loop.example/videocodec/impl.quantSteps"], fn := fun _ => fun
  | [d1, d2, d3, d4, g1] => { results := [.lit (.bool false)], args := [d1, d2, d3, d4], vars := [g1] }
  | _ => none }
def FnExactJoinLayersWrongFalsely : Prop := fnExactJoinLayersRow.holds Tryd.pinned (OpenSpec.ofChange fnExactJoinLayersWrong)

/-- 'laws.FnExactTwoLayers': WHATEVER THE INPUT: true; the input reads as it did. -/
def fnExactTwoLayersSpec : ChangeSpec := { name := "fnExactTwoLayers", vars := ["loop.example/videocodec/impl.quantSteps"], fn := fun _ => fun
  | [d1, d2, d3, g1] => { results := [.lit (.bool true)], args := [d1, d2, d3], vars := [g1] }
  | _ => none }
def fnExactTwoLayersRow : OpenClaim := { program := "ytkdmhlbmhjolcaadoor", sum := "558df4f20255752e5232f58966e73e6a2a018b6339d1a474b1fe9d464ba31aab", func := "loop.example/videocodec/laws.FnExactTwoLayers", spec := "fnExactTwoLayers", named := ["loop.example/videocodec/impl.quantSteps"], apart := false, laid := [("loop.example/videocodec/impl.quantSteps", laid_loop_example_videocodec_impl_quantSteps)] }
def FnExactTwoLayersSaid : Prop := fnExactTwoLayersRow.holds Tryd.pinned (OpenSpec.ofChange fnExactTwoLayersSpec)

/-- ITS FALSE NEIGHBOUR: 'it returns false'. Refute it at one input. -/
def fnExactTwoLayersWrong : ChangeSpec := { name := "fnExactTwoLayers", vars := ["loop.example/videocodec/impl.quantSteps"], fn := fun _ => fun
  | [d1, d2, d3, g1] => { results := [.lit (.bool false)], args := [d1, d2, d3], vars := [g1] }
  | _ => none }
def FnExactTwoLayersWrongFalsely : Prop := fnExactTwoLayersRow.holds Tryd.pinned (OpenSpec.ofChange fnExactTwoLayersWrong)

/-- 'laws.FnQualityLadder': WHATEVER THE INPUT: true; the input reads as it did. -/
def fnQualityLadderSpec : ChangeSpec := { name := "fnQualityLadder", vars := ["loop.example/videocodec/impl.quantSteps"], fn := fun _ => fun
  | [d, g1] => { results := [.lit (.bool true)], args := [d], vars := [g1] }
  | _ => none }
def fnQualityLadderRow : OpenClaim := { program := "ytkdmhlbmhjolcaadoor", sum := "558df4f20255752e5232f58966e73e6a2a018b6339d1a474b1fe9d464ba31aab", func := "loop.example/videocodec/laws.FnQualityLadder", spec := "fnQualityLadder", named := ["loop.example/videocodec/impl.quantSteps"], apart := false, laid := [("loop.example/videocodec/impl.quantSteps", laid_loop_example_videocodec_impl_quantSteps)] }
def FnQualityLadderSaid : Prop := fnQualityLadderRow.holds Tryd.pinned (OpenSpec.ofChange fnQualityLadderSpec)

/-- ITS FALSE NEIGHBOUR: 'it returns false'. Refute it at one input. -/
def fnQualityLadderWrong : ChangeSpec := { name := "fnQualityLadder", vars := ["loop.example/videocodec/impl.quantSteps"], fn := fun _ => fun
  | [d, g1] => { results := [.lit (.bool false)], args := [d], vars := [g1] }
  | _ => none }
def FnQualityLadderWrongFalsely : Prop := fnQualityLadderRow.holds Tryd.pinned (OpenSpec.ofChange fnQualityLadderWrong)

/-- 'laws.FnCoefficientError': WHATEVER THE INPUT: true; the input reads as it did. -/
def fnCoefficientErrorSpec : ChangeSpec := { name := "fnCoefficientError", vars := ["loop.example/videocodec/impl.quantSteps"], fn := fun _ => fun
  | [d, g1] => { results := [.lit (.bool true)], args := [d], vars := [g1] }
  | _ => none }
def fnCoefficientErrorRow : OpenClaim := { program := "ytkdmhlbmhjolcaadoor", sum := "558df4f20255752e5232f58966e73e6a2a018b6339d1a474b1fe9d464ba31aab", func := "loop.example/videocodec/laws.FnCoefficientError", spec := "fnCoefficientError", named := ["loop.example/videocodec/impl.quantSteps"], apart := false, laid := [("loop.example/videocodec/impl.quantSteps", laid_loop_example_videocodec_impl_quantSteps)] }
def FnCoefficientErrorSaid : Prop := fnCoefficientErrorRow.holds Tryd.pinned (OpenSpec.ofChange fnCoefficientErrorSpec)

/-- ITS FALSE NEIGHBOUR: 'it returns false'. Refute it at one input. -/
def fnCoefficientErrorWrong : ChangeSpec := { name := "fnCoefficientError", vars := ["loop.example/videocodec/impl.quantSteps"], fn := fun _ => fun
  | [d, g1] => { results := [.lit (.bool false)], args := [d], vars := [g1] }
  | _ => none }
def FnCoefficientErrorWrongFalsely : Prop := fnCoefficientErrorRow.holds Tryd.pinned (OpenSpec.ofChange fnCoefficientErrorWrong)

/-- 'laws.FnJoinLayers': WHATEVER THE INPUT: true; the input reads as it did. -/
def fnJoinLayersSpec : ChangeSpec := { name := "fnJoinLayers", vars := ["loop.example/videocodec/impl.quantSteps"], fn := fun _ => fun
  | [d, g1] => { results := [.lit (.bool true)], args := [d], vars := [g1] }
  | _ => none }
def fnJoinLayersRow : OpenClaim := { program := "ytkdmhlbmhjolcaadoor", sum := "558df4f20255752e5232f58966e73e6a2a018b6339d1a474b1fe9d464ba31aab", func := "loop.example/videocodec/laws.FnJoinLayers", spec := "fnJoinLayers", named := ["loop.example/videocodec/impl.quantSteps"], apart := false, laid := [("loop.example/videocodec/impl.quantSteps", laid_loop_example_videocodec_impl_quantSteps)] }
def FnJoinLayersSaid : Prop := fnJoinLayersRow.holds Tryd.pinned (OpenSpec.ofChange fnJoinLayersSpec)

/-- ITS FALSE NEIGHBOUR: 'it returns false'. Refute it at one input. -/
def fnJoinLayersWrong : ChangeSpec := { name := "fnJoinLayers", vars := ["loop.example/videocodec/impl.quantSteps"], fn := fun _ => fun
  | [d, g1] => { results := [.lit (.bool false)], args := [d], vars := [g1] }
  | _ => none }
def FnJoinLayersWrongFalsely : Prop := fnJoinLayersRow.holds Tryd.pinned (OpenSpec.ofChange fnJoinLayersWrong)

/-- 'laws.FnTwoLayers': WHATEVER THE INPUT: true; the input reads as it did. -/
def fnTwoLayersSpec : ChangeSpec := { name := "fnTwoLayers", vars := ["loop.example/videocodec/impl.quantSteps"], fn := fun _ => fun
  | [d, g1] => { results := [.lit (.bool true)], args := [d], vars := [g1] }
  | _ => none }
def fnTwoLayersRow : OpenClaim := { program := "ytkdmhlbmhjolcaadoor", sum := "558df4f20255752e5232f58966e73e6a2a018b6339d1a474b1fe9d464ba31aab", func := "loop.example/videocodec/laws.FnTwoLayers", spec := "fnTwoLayers", named := ["loop.example/videocodec/impl.quantSteps"], apart := false, laid := [("loop.example/videocodec/impl.quantSteps", laid_loop_example_videocodec_impl_quantSteps)] }
def FnTwoLayersSaid : Prop := fnTwoLayersRow.holds Tryd.pinned (OpenSpec.ofChange fnTwoLayersSpec)

/-- ITS FALSE NEIGHBOUR: 'it returns false'. Refute it at one input. -/
def fnTwoLayersWrong : ChangeSpec := { name := "fnTwoLayers", vars := ["loop.example/videocodec/impl.quantSteps"], fn := fun _ => fun
  | [d, g1] => { results := [.lit (.bool false)], args := [d], vars := [g1] }
  | _ => none }
def FnTwoLayersWrongFalsely : Prop := fnTwoLayersRow.holds Tryd.pinned (OpenSpec.ofChange fnTwoLayersWrong)

/- THE SECOND FORM. 'bulk': how many values and letters a reading holds, each counted each time it is reached (what is shared counts as often as it is met; a slice's spare places count too). A statement '..UptoSaid' is the law's where the arguments, and the package variables that the reading takes, are together of bulk at most 1048576: NARROWER than '..Said'. Prove '..Said' where nothing that the law and all that it calls make is longer than what came in: it says more and counts as full. Else prove '..UptoSaid'. A law counts once. -/
mutual
def uptoBulk {H : Type} : DataW H → Nat
  | .lit (.string bytes) => bytes.length + 1
  | .lit _ => 1
  | .nil => 1
  | .ptr d => uptoBulk d + 1
  | .slice elems spare => uptoBulkAll elems + uptoBulkAll spare + 1
  | .agg parts => uptoBulkAll parts + 1
  | .iface _ d => uptoBulk d + 1
  | .map entries => uptoBulkEntries entries + 1
  | .held _ => 1
def uptoBulkAll {H : Type} : List (DataW H) → Nat
  | [] => 0
  | d :: r => uptoBulk d + uptoBulkAll r
def uptoBulkEntries {H : Type} : List (Lit × DataW H) → Nat
  | [] => 0
  | x :: r => uptoBulkEntry x + uptoBulkEntries r
def uptoBulkEntry {H : Type} : Lit × DataW H → Nat
  | (.string bytes, d) => bytes.length + uptoBulk d + 1
  | (_, d) => uptoBulk d + 1
 end
def uptoSmall : (H : Type) → List (DataW H) → Bool := fun _ ds => decide (uptoBulkAll ds ≤ 1048576)
def OpenSpec.upto (s : _root_.Go.ChangeSpec) : _root_.Go.OpenSpec := { _root_.Go.OpenSpec.ofChange s with cond := some uptoSmall }

/-- 'laws.FnExactCoefficientError', WHERE WHAT IT READS IS OF BULK AT MOST 1048576: true; the input reads as it did. -/
def fnExactCoefficientErrorUptoRow : OpenClaim := { program := "ytkdmhlbmhjolcaadoor", sum := "558df4f20255752e5232f58966e73e6a2a018b6339d1a474b1fe9d464ba31aab", func := "loop.example/videocodec/laws.FnExactCoefficientError", spec := "fnExactCoefficientError", named := ["loop.example/videocodec/impl.quantSteps"], apart := false, laid := [("loop.example/videocodec/impl.quantSteps", laid_loop_example_videocodec_impl_quantSteps)], narrowed := true }
def FnExactCoefficientErrorUptoSaid : Prop := fnExactCoefficientErrorUptoRow.holds Tryd.pinned (OpenSpec.upto fnExactCoefficientErrorSpec)

/-- 'laws.FnExactJoinLayers', WHERE WHAT IT READS IS OF BULK AT MOST 1048576: true; the input reads as it did. -/
def fnExactJoinLayersUptoRow : OpenClaim := { program := "ytkdmhlbmhjolcaadoor", sum := "558df4f20255752e5232f58966e73e6a2a018b6339d1a474b1fe9d464ba31aab", func := "loop.example/videocodec/laws.FnExactJoinLayers", spec := "fnExactJoinLayers", named := ["loop.example/videocodec/impl.quantSteps"], apart := false, laid := [("loop.example/videocodec/impl.quantSteps", laid_loop_example_videocodec_impl_quantSteps)], narrowed := true }
def FnExactJoinLayersUptoSaid : Prop := fnExactJoinLayersUptoRow.holds Tryd.pinned (OpenSpec.upto fnExactJoinLayersSpec)

/-- 'laws.FnExactTwoLayers', WHERE WHAT IT READS IS OF BULK AT MOST 1048576: true; the input reads as it did. -/
def fnExactTwoLayersUptoRow : OpenClaim := { program := "ytkdmhlbmhjolcaadoor", sum := "558df4f20255752e5232f58966e73e6a2a018b6339d1a474b1fe9d464ba31aab", func := "loop.example/videocodec/laws.FnExactTwoLayers", spec := "fnExactTwoLayers", named := ["loop.example/videocodec/impl.quantSteps"], apart := false, laid := [("loop.example/videocodec/impl.quantSteps", laid_loop_example_videocodec_impl_quantSteps)], narrowed := true }
def FnExactTwoLayersUptoSaid : Prop := fnExactTwoLayersUptoRow.holds Tryd.pinned (OpenSpec.upto fnExactTwoLayersSpec)

/-- 'laws.FnQualityLadder', WHERE WHAT IT READS IS OF BULK AT MOST 1048576: true; the input reads as it did. -/
def fnQualityLadderUptoRow : OpenClaim := { program := "ytkdmhlbmhjolcaadoor", sum := "558df4f20255752e5232f58966e73e6a2a018b6339d1a474b1fe9d464ba31aab", func := "loop.example/videocodec/laws.FnQualityLadder", spec := "fnQualityLadder", named := ["loop.example/videocodec/impl.quantSteps"], apart := false, laid := [("loop.example/videocodec/impl.quantSteps", laid_loop_example_videocodec_impl_quantSteps)], narrowed := true }
def FnQualityLadderUptoSaid : Prop := fnQualityLadderUptoRow.holds Tryd.pinned (OpenSpec.upto fnQualityLadderSpec)

/-- 'laws.FnCoefficientError', WHERE WHAT IT READS IS OF BULK AT MOST 1048576: true; the input reads as it did. -/
def fnCoefficientErrorUptoRow : OpenClaim := { program := "ytkdmhlbmhjolcaadoor", sum := "558df4f20255752e5232f58966e73e6a2a018b6339d1a474b1fe9d464ba31aab", func := "loop.example/videocodec/laws.FnCoefficientError", spec := "fnCoefficientError", named := ["loop.example/videocodec/impl.quantSteps"], apart := false, laid := [("loop.example/videocodec/impl.quantSteps", laid_loop_example_videocodec_impl_quantSteps)], narrowed := true }
def FnCoefficientErrorUptoSaid : Prop := fnCoefficientErrorUptoRow.holds Tryd.pinned (OpenSpec.upto fnCoefficientErrorSpec)

/-- 'laws.FnJoinLayers', WHERE WHAT IT READS IS OF BULK AT MOST 1048576: true; the input reads as it did. -/
def fnJoinLayersUptoRow : OpenClaim := { program := "ytkdmhlbmhjolcaadoor", sum := "558df4f20255752e5232f58966e73e6a2a018b6339d1a474b1fe9d464ba31aab", func := "loop.example/videocodec/laws.FnJoinLayers", spec := "fnJoinLayers", named := ["loop.example/videocodec/impl.quantSteps"], apart := false, laid := [("loop.example/videocodec/impl.quantSteps", laid_loop_example_videocodec_impl_quantSteps)], narrowed := true }
def FnJoinLayersUptoSaid : Prop := fnJoinLayersUptoRow.holds Tryd.pinned (OpenSpec.upto fnJoinLayersSpec)

/-- 'laws.FnTwoLayers', WHERE WHAT IT READS IS OF BULK AT MOST 1048576: true; the input reads as it did. -/
def fnTwoLayersUptoRow : OpenClaim := { program := "ytkdmhlbmhjolcaadoor", sum := "558df4f20255752e5232f58966e73e6a2a018b6339d1a474b1fe9d464ba31aab", func := "loop.example/videocodec/laws.FnTwoLayers", spec := "fnTwoLayers", named := ["loop.example/videocodec/impl.quantSteps"], apart := false, laid := [("loop.example/videocodec/impl.quantSteps", laid_loop_example_videocodec_impl_quantSteps)], narrowed := true }
def FnTwoLayersUptoSaid : Prop := fnTwoLayersUptoRow.holds Tryd.pinned (OpenSpec.upto fnTwoLayersSpec)

end Rows
end Go.Proofs.YtkdmhlbmhjolcaaDoor
