/-
  No cell of these rows narrows 'for every input' (looked for: loops, veiled, ifaces, maps, wideKeys, modest, calm, conditions, laid).
  DERIVED. THE GIVEN ROWS OF THIS SEAT. 10 by the template 'for every input the law returns true; each argument reads behind the call as it read before'; 0 by the template 'total and deterministic' (their statements: YtoipcfpbkjanhaaTotals.lean).
  GIVEN WITH THE SEED: the statements are not yours to turn. If you find one false, say at which input.
  Laid BY PROGRAM, IN A SANDBOX (cutbox-rows.mjs): the forced cells as the released guide's own fill.sh prints them over the translation 2be05368e2c86f14… (all of the seat's roots in one cut). By AI agents, Wed Nov 11 2026. No macro, syntax, notation, axiom, sorry.
-/
import Derived.Test.YtoipcfpbkjanhaaChecked
import GoSem.Claim
import GoSem.ClaimJoined
import GoSem.ClaimMapViews
import Derived.JoinedTies
import Derived.KernelRfl
namespace Go.Proofs.Ytoipcfpbkjanhaa
/- THE CELL 'sum', in the pinned program and in every row, IS THE sha256 OF THE DUMP (.gsa) THAT YtoipcfpbkjanhaaProg.lean LOADS. Nothing in Lean hashes anything: it is a label: what it is worth is what the hold of that sum in a sandbox is worth. -/
noncomputable def Try.pinned : Pinned := { name := "ytoipcfpbkjanhaa", sum := "2be05368e2c86f1485465d96e9ea2700974bc8b5f638c7561a8463751a3ec440", checked := Try.checked }
namespace Rows
def none {H : Type} : Left H := { results := [], args := [] }

/-- 'laws.FnExactHistogram': WHATEVER THE INPUT: true; the input reads as it did. -/
def fnExactHistogramSpec : ChangeSpec := { name := "fnExactHistogram", fn := fun _ => fun
  | [d] => { results := [.lit (.bool true)], args := [d] }
  | _ => none }
def fnExactHistogramRow : OpenClaim := { program := "ytoipcfpbkjanhaa", sum := "2be05368e2c86f1485465d96e9ea2700974bc8b5f638c7561a8463751a3ec440", func := "loop.example/videocodec/laws.FnExactHistogram", spec := "fnExactHistogram", apart := false }
def FnExactHistogramSaid : Prop := fnExactHistogramRow.holds Try.pinned (OpenSpec.ofChange fnExactHistogramSpec)

/-- ITS FALSE NEIGHBOUR: 'it returns false'. Refute it at one input. -/
def fnExactHistogramWrong : ChangeSpec := { name := "fnExactHistogram", fn := fun _ => fun
  | [d] => { results := [.lit (.bool false)], args := [d] }
  | _ => none }
def FnExactHistogramWrongFalsely : Prop := fnExactHistogramRow.holds Try.pinned (OpenSpec.ofChange fnExactHistogramWrong)

/-- 'laws.FnExactSceneCut': WHATEVER THE INPUT: true; the input reads as it did. -/
def fnExactSceneCutSpec : ChangeSpec := { name := "fnExactSceneCut", fn := fun _ => fun
  | [d1, d2] => { results := [.lit (.bool true)], args := [d1, d2] }
  | _ => none }
def fnExactSceneCutRow : OpenClaim := { program := "ytoipcfpbkjanhaa", sum := "2be05368e2c86f1485465d96e9ea2700974bc8b5f638c7561a8463751a3ec440", func := "loop.example/videocodec/laws.FnExactSceneCut", spec := "fnExactSceneCut", apart := false }
def FnExactSceneCutSaid : Prop := fnExactSceneCutRow.holds Try.pinned (OpenSpec.ofChange fnExactSceneCutSpec)

/-- ITS FALSE NEIGHBOUR: 'it returns false'. Refute it at one input. -/
def fnExactSceneCutWrong : ChangeSpec := { name := "fnExactSceneCut", fn := fun _ => fun
  | [d1, d2] => { results := [.lit (.bool false)], args := [d1, d2] }
  | _ => none }
def FnExactSceneCutWrongFalsely : Prop := fnExactSceneCutRow.holds Try.pinned (OpenSpec.ofChange fnExactSceneCutWrong)

/-- 'laws.FnExactFadePicture': WHATEVER THE INPUT: true; the input reads as it did. -/
def fnExactFadePictureSpec : ChangeSpec := { name := "fnExactFadePicture", fn := fun _ => fun
  | [d1, d2, d3] => { results := [.lit (.bool true)], args := [d1, d2, d3] }
  | _ => none }
def fnExactFadePictureRow : OpenClaim := { program := "ytoipcfpbkjanhaa", sum := "2be05368e2c86f1485465d96e9ea2700974bc8b5f638c7561a8463751a3ec440", func := "loop.example/videocodec/laws.FnExactFadePicture", spec := "fnExactFadePicture", apart := false }
def FnExactFadePictureSaid : Prop := fnExactFadePictureRow.holds Try.pinned (OpenSpec.ofChange fnExactFadePictureSpec)

/-- ITS FALSE NEIGHBOUR: 'it returns false'. Refute it at one input. -/
def fnExactFadePictureWrong : ChangeSpec := { name := "fnExactFadePicture", fn := fun _ => fun
  | [d1, d2, d3] => { results := [.lit (.bool false)], args := [d1, d2, d3] }
  | _ => none }
def FnExactFadePictureWrongFalsely : Prop := fnExactFadePictureRow.holds Try.pinned (OpenSpec.ofChange fnExactFadePictureWrong)

/-- 'laws.FnExactHalfSize': WHATEVER THE INPUT: true; the input reads as it did. -/
def fnExactHalfSizeSpec : ChangeSpec := { name := "fnExactHalfSize", fn := fun _ => fun
  | [d] => { results := [.lit (.bool true)], args := [d] }
  | _ => none }
def fnExactHalfSizeRow : OpenClaim := { program := "ytoipcfpbkjanhaa", sum := "2be05368e2c86f1485465d96e9ea2700974bc8b5f638c7561a8463751a3ec440", func := "loop.example/videocodec/laws.FnExactHalfSize", spec := "fnExactHalfSize", unfollowed := true, recurses := true, apart := false }
def FnExactHalfSizeSaid : Prop := fnExactHalfSizeRow.holds Try.pinned (OpenSpec.ofChange fnExactHalfSizeSpec)

/-- ITS FALSE NEIGHBOUR: 'it returns false'. Refute it at one input. -/
def fnExactHalfSizeWrong : ChangeSpec := { name := "fnExactHalfSize", fn := fun _ => fun
  | [d] => { results := [.lit (.bool false)], args := [d] }
  | _ => none }
def FnExactHalfSizeWrongFalsely : Prop := fnExactHalfSizeRow.holds Try.pinned (OpenSpec.ofChange fnExactHalfSizeWrong)

/-- 'laws.FnExactDoubleSize': WHATEVER THE INPUT: true; the input reads as it did. -/
def fnExactDoubleSizeSpec : ChangeSpec := { name := "fnExactDoubleSize", fn := fun _ => fun
  | [d] => { results := [.lit (.bool true)], args := [d] }
  | _ => none }
def fnExactDoubleSizeRow : OpenClaim := { program := "ytoipcfpbkjanhaa", sum := "2be05368e2c86f1485465d96e9ea2700974bc8b5f638c7561a8463751a3ec440", func := "loop.example/videocodec/laws.FnExactDoubleSize", spec := "fnExactDoubleSize", unfollowed := true, recurses := true, apart := false }
def FnExactDoubleSizeSaid : Prop := fnExactDoubleSizeRow.holds Try.pinned (OpenSpec.ofChange fnExactDoubleSizeSpec)

/-- ITS FALSE NEIGHBOUR: 'it returns false'. Refute it at one input. -/
def fnExactDoubleSizeWrong : ChangeSpec := { name := "fnExactDoubleSize", fn := fun _ => fun
  | [d] => { results := [.lit (.bool false)], args := [d] }
  | _ => none }
def FnExactDoubleSizeWrongFalsely : Prop := fnExactDoubleSizeRow.holds Try.pinned (OpenSpec.ofChange fnExactDoubleSizeWrong)

/-- 'laws.FnHistogram': WHATEVER THE INPUT: true; the input reads as it did. -/
def fnHistogramSpec : ChangeSpec := { name := "fnHistogram", fn := fun _ => fun
  | [d] => { results := [.lit (.bool true)], args := [d] }
  | _ => none }
def fnHistogramRow : OpenClaim := { program := "ytoipcfpbkjanhaa", sum := "2be05368e2c86f1485465d96e9ea2700974bc8b5f638c7561a8463751a3ec440", func := "loop.example/videocodec/laws.FnHistogram", spec := "fnHistogram", apart := false }
def FnHistogramSaid : Prop := fnHistogramRow.holds Try.pinned (OpenSpec.ofChange fnHistogramSpec)

/-- ITS FALSE NEIGHBOUR: 'it returns false'. Refute it at one input. -/
def fnHistogramWrong : ChangeSpec := { name := "fnHistogram", fn := fun _ => fun
  | [d] => { results := [.lit (.bool false)], args := [d] }
  | _ => none }
def FnHistogramWrongFalsely : Prop := fnHistogramRow.holds Try.pinned (OpenSpec.ofChange fnHistogramWrong)

/-- 'laws.FnHalfSize': WHATEVER THE INPUT: true; the input reads as it did. -/
def fnHalfSizeSpec : ChangeSpec := { name := "fnHalfSize", fn := fun _ => fun
  | [d] => { results := [.lit (.bool true)], args := [d] }
  | _ => none }
def fnHalfSizeRow : OpenClaim := { program := "ytoipcfpbkjanhaa", sum := "2be05368e2c86f1485465d96e9ea2700974bc8b5f638c7561a8463751a3ec440", func := "loop.example/videocodec/laws.FnHalfSize", spec := "fnHalfSize", unfollowed := true, recurses := true, apart := false }
def FnHalfSizeSaid : Prop := fnHalfSizeRow.holds Try.pinned (OpenSpec.ofChange fnHalfSizeSpec)

/-- ITS FALSE NEIGHBOUR: 'it returns false'. Refute it at one input. -/
def fnHalfSizeWrong : ChangeSpec := { name := "fnHalfSize", fn := fun _ => fun
  | [d] => { results := [.lit (.bool false)], args := [d] }
  | _ => none }
def FnHalfSizeWrongFalsely : Prop := fnHalfSizeRow.holds Try.pinned (OpenSpec.ofChange fnHalfSizeWrong)

/-- 'laws.FnFadePicture': WHATEVER THE INPUT: true; the input reads as it did. -/
def fnFadePictureSpec : ChangeSpec := { name := "fnFadePicture", fn := fun _ => fun
  | [d] => { results := [.lit (.bool true)], args := [d] }
  | _ => none }
def fnFadePictureRow : OpenClaim := { program := "ytoipcfpbkjanhaa", sum := "2be05368e2c86f1485465d96e9ea2700974bc8b5f638c7561a8463751a3ec440", func := "loop.example/videocodec/laws.FnFadePicture", spec := "fnFadePicture", apart := false }
def FnFadePictureSaid : Prop := fnFadePictureRow.holds Try.pinned (OpenSpec.ofChange fnFadePictureSpec)

/-- ITS FALSE NEIGHBOUR: 'it returns false'. Refute it at one input. -/
def fnFadePictureWrong : ChangeSpec := { name := "fnFadePicture", fn := fun _ => fun
  | [d] => { results := [.lit (.bool false)], args := [d] }
  | _ => none }
def FnFadePictureWrongFalsely : Prop := fnFadePictureRow.holds Try.pinned (OpenSpec.ofChange fnFadePictureWrong)

/-- 'laws.FnSceneCut': WHATEVER THE INPUT: true; the input reads as it did. -/
def fnSceneCutSpec : ChangeSpec := { name := "fnSceneCut", fn := fun _ => fun
  | [d] => { results := [.lit (.bool true)], args := [d] }
  | _ => none }
def fnSceneCutRow : OpenClaim := { program := "ytoipcfpbkjanhaa", sum := "2be05368e2c86f1485465d96e9ea2700974bc8b5f638c7561a8463751a3ec440", func := "loop.example/videocodec/laws.FnSceneCut", spec := "fnSceneCut", apart := false }
def FnSceneCutSaid : Prop := fnSceneCutRow.holds Try.pinned (OpenSpec.ofChange fnSceneCutSpec)

/-- ITS FALSE NEIGHBOUR: 'it returns false'. Refute it at one input. -/
def fnSceneCutWrong : ChangeSpec := { name := "fnSceneCut", fn := fun _ => fun
  | [d] => { results := [.lit (.bool false)], args := [d] }
  | _ => none }
def FnSceneCutWrongFalsely : Prop := fnSceneCutRow.holds Try.pinned (OpenSpec.ofChange fnSceneCutWrong)

/-- 'laws.FnDoubleSize': WHATEVER THE INPUT: true; the input reads as it did. -/
def fnDoubleSizeSpec : ChangeSpec := { name := "fnDoubleSize", fn := fun _ => fun
  | [d] => { results := [.lit (.bool true)], args := [d] }
  | _ => none }
def fnDoubleSizeRow : OpenClaim := { program := "ytoipcfpbkjanhaa", sum := "2be05368e2c86f1485465d96e9ea2700974bc8b5f638c7561a8463751a3ec440", func := "loop.example/videocodec/laws.FnDoubleSize", spec := "fnDoubleSize", unfollowed := true, recurses := true, apart := false }
def FnDoubleSizeSaid : Prop := fnDoubleSizeRow.holds Try.pinned (OpenSpec.ofChange fnDoubleSizeSpec)

/-- ITS FALSE NEIGHBOUR: 'it returns false'. Refute it at one input. -/
def fnDoubleSizeWrong : ChangeSpec := { name := "fnDoubleSize", fn := fun _ => fun
  | [d] => { results := [.lit (.bool false)], args := [d] }
  | _ => none }
def FnDoubleSizeWrongFalsely : Prop := fnDoubleSizeRow.holds Try.pinned (OpenSpec.ofChange fnDoubleSizeWrong)

/- THE SECOND FORM. 'bulk': how many values and letters a reading holds, each counted each time it is reached (what is shared counts as often as it is met; a slice's spare places count too). A statement '..UptoSaid' is the law's where the arguments, and the package variables that the reading takes, are together of bulk at most 1048576: NARROWER than '..Said'. Prove '..Said' where nothing that the law and all that it calls make is longer than what came in: it says more and counts as full. Else prove '..UptoSaid'. A law counts once. -/
mutual
def uptoBulk {H : Type} : DataW H → Nat
  | .lit (.string bytes) => bytes.length + 1
  | .lit _ => 1
  | .nil => 1
  | .ptr d => uptoBulk d + 1
  | .slice elems spare => uptoBulkAll elems + uptoBulkAll spare + 1
  | .agg parts => uptoBulkAll parts + 1
  | .iface _ d => uptoBulk d + 1
  | .map entries => uptoBulkEntries entries + 1
  | .held _ => 1
def uptoBulkAll {H : Type} : List (DataW H) → Nat
  | [] => 0
  | d :: r => uptoBulk d + uptoBulkAll r
def uptoBulkEntries {H : Type} : List (Lit × DataW H) → Nat
  | [] => 0
  | x :: r => uptoBulkEntry x + uptoBulkEntries r
def uptoBulkEntry {H : Type} : Lit × DataW H → Nat
  | (.string bytes, d) => bytes.length + uptoBulk d + 1
  | (_, d) => uptoBulk d + 1
 end
def uptoSmall : (H : Type) → List (DataW H) → Bool := fun _ ds => decide (uptoBulkAll ds ≤ 1048576)
def OpenSpec.upto (s : _root_.Go.ChangeSpec) : _root_.Go.OpenSpec := { _root_.Go.OpenSpec.ofChange s with cond := some uptoSmall }

/-- 'laws.FnExactHistogram', WHERE WHAT IT READS IS OF BULK AT MOST 1048576: true; the input reads as it did. -/
def fnExactHistogramUptoRow : OpenClaim := { program := "ytoipcfpbkjanhaa", sum := "2be05368e2c86f1485465d96e9ea2700974bc8b5f638c7561a8463751a3ec440", func := "loop.example/videocodec/laws.FnExactHistogram", spec := "fnExactHistogram", apart := false, narrowed := true }
def FnExactHistogramUptoSaid : Prop := fnExactHistogramUptoRow.holds Try.pinned (OpenSpec.upto fnExactHistogramSpec)

/-- 'laws.FnExactSceneCut', WHERE WHAT IT READS IS OF BULK AT MOST 1048576: true; the input reads as it did. -/
def fnExactSceneCutUptoRow : OpenClaim := { program := "ytoipcfpbkjanhaa", sum := "2be05368e2c86f1485465d96e9ea2700974bc8b5f638c7561a8463751a3ec440", func := "loop.example/videocodec/laws.FnExactSceneCut", spec := "fnExactSceneCut", apart := false, narrowed := true }
def FnExactSceneCutUptoSaid : Prop := fnExactSceneCutUptoRow.holds Try.pinned (OpenSpec.upto fnExactSceneCutSpec)

/-- 'laws.FnExactFadePicture', WHERE WHAT IT READS IS OF BULK AT MOST 1048576: true; the input reads as it did. -/
def fnExactFadePictureUptoRow : OpenClaim := { program := "ytoipcfpbkjanhaa", sum := "2be05368e2c86f1485465d96e9ea2700974bc8b5f638c7561a8463751a3ec440", func := "loop.example/videocodec/laws.FnExactFadePicture", spec := "fnExactFadePicture", apart := false, narrowed := true }
def FnExactFadePictureUptoSaid : Prop := fnExactFadePictureUptoRow.holds Try.pinned (OpenSpec.upto fnExactFadePictureSpec)

/-- 'laws.FnExactHalfSize', WHERE WHAT IT READS IS OF BULK AT MOST 1048576: true; the input reads as it did. -/
def fnExactHalfSizeUptoRow : OpenClaim := { program := "ytoipcfpbkjanhaa", sum := "2be05368e2c86f1485465d96e9ea2700974bc8b5f638c7561a8463751a3ec440", func := "loop.example/videocodec/laws.FnExactHalfSize", spec := "fnExactHalfSize", unfollowed := true, recurses := true, apart := false, narrowed := true }
def FnExactHalfSizeUptoSaid : Prop := fnExactHalfSizeUptoRow.holds Try.pinned (OpenSpec.upto fnExactHalfSizeSpec)

/-- 'laws.FnExactDoubleSize', WHERE WHAT IT READS IS OF BULK AT MOST 1048576: true; the input reads as it did. -/
def fnExactDoubleSizeUptoRow : OpenClaim := { program := "ytoipcfpbkjanhaa", sum := "2be05368e2c86f1485465d96e9ea2700974bc8b5f638c7561a8463751a3ec440", func := "loop.example/videocodec/laws.FnExactDoubleSize", spec := "fnExactDoubleSize", unfollowed := true, recurses := true, apart := false, narrowed := true }
def FnExactDoubleSizeUptoSaid : Prop := fnExactDoubleSizeUptoRow.holds Try.pinned (OpenSpec.upto fnExactDoubleSizeSpec)

/-- 'laws.FnHistogram', WHERE WHAT IT READS IS OF BULK AT MOST 1048576: true; the input reads as it did. -/
def fnHistogramUptoRow : OpenClaim := { program := "ytoipcfpbkjanhaa", sum := "2be05368e2c86f1485465d96e9ea2700974bc8b5f638c7561a8463751a3ec440", func := "loop.example/videocodec/laws.FnHistogram", spec := "fnHistogram", apart := false, narrowed := true }
def FnHistogramUptoSaid : Prop := fnHistogramUptoRow.holds Try.pinned (OpenSpec.upto fnHistogramSpec)

/-- 'laws.FnHalfSize', WHERE WHAT IT READS IS OF BULK AT MOST 1048576: true; the input reads as it did. -/
def fnHalfSizeUptoRow : OpenClaim := { program := "ytoipcfpbkjanhaa", sum := "2be05368e2c86f1485465d96e9ea2700974bc8b5f638c7561a8463751a3ec440", func := "loop.example/videocodec/laws.FnHalfSize", spec := "fnHalfSize", unfollowed := true, recurses := true, apart := false, narrowed := true }
def FnHalfSizeUptoSaid : Prop := fnHalfSizeUptoRow.holds Try.pinned (OpenSpec.upto fnHalfSizeSpec)

/-- 'laws.FnFadePicture', WHERE WHAT IT READS IS OF BULK AT MOST 1048576: true; the input reads as it did. -/
def fnFadePictureUptoRow : OpenClaim := { program := "ytoipcfpbkjanhaa", sum := "2be05368e2c86f1485465d96e9ea2700974bc8b5f638c7561a8463751a3ec440", func := "loop.example/videocodec/laws.FnFadePicture", spec := "fnFadePicture", apart := false, narrowed := true }
def FnFadePictureUptoSaid : Prop := fnFadePictureUptoRow.holds Try.pinned (OpenSpec.upto fnFadePictureSpec)

/-- 'laws.FnSceneCut', WHERE WHAT IT READS IS OF BULK AT MOST 1048576: true; the input reads as it did. -/
def fnSceneCutUptoRow : OpenClaim := { program := "ytoipcfpbkjanhaa", sum := "2be05368e2c86f1485465d96e9ea2700974bc8b5f638c7561a8463751a3ec440", func := "loop.example/videocodec/laws.FnSceneCut", spec := "fnSceneCut", apart := false, narrowed := true }
def FnSceneCutUptoSaid : Prop := fnSceneCutUptoRow.holds Try.pinned (OpenSpec.upto fnSceneCutSpec)

/-- 'laws.FnDoubleSize', WHERE WHAT IT READS IS OF BULK AT MOST 1048576: true; the input reads as it did. -/
def fnDoubleSizeUptoRow : OpenClaim := { program := "ytoipcfpbkjanhaa", sum := "2be05368e2c86f1485465d96e9ea2700974bc8b5f638c7561a8463751a3ec440", func := "loop.example/videocodec/laws.FnDoubleSize", spec := "fnDoubleSize", unfollowed := true, recurses := true, apart := false, narrowed := true }
def FnDoubleSizeUptoSaid : Prop := fnDoubleSizeUptoRow.holds Try.pinned (OpenSpec.upto fnDoubleSizeSpec)

end Rows
end Go.Proofs.Ytoipcfpbkjanhaa
