/-
  No cell of these rows narrows 'for every input' (looked for: loops, veiled, ifaces, maps, wideKeys, modest, calm, conditions, laid).
  DERIVED. THE GIVEN ROWS OF THIS SEAT. 6 by the template 'for every input the law returns true; each argument reads behind the call as it read before'; 0 by the template 'total and deterministic' (their statements: YtjpfagkepmkeaaaTotals.lean).
  GIVEN WITH THE SEED: the statements are not yours to turn. If you find one false, say at which input.
  Laid BY PROGRAM, IN A SANDBOX (cutbox-rows.mjs): the forced cells as the released guide's own fill.sh prints them over the translation 2a286812f342eb6f… (all of the seat's roots in one cut). By AI agents, Wed Nov 11 2026. No macro, syntax, notation, axiom, sorry.
-/
import Derived.Test.YtjpfagkepmkeaaaChecked
import GoSem.Claim
import GoSem.ClaimJoined
import GoSem.ClaimMapViews
import Derived.JoinedTies
import Derived.KernelRfl
namespace Go.Proofs.Ytjpfagkepmkeaaa
/- THE CELL 'sum', in the pinned program and in every row, IS THE sha256 OF THE DUMP (.gsa) THAT YtjpfagkepmkeaaaProg.lean LOADS. Nothing in Lean hashes anything: it is a label: what it is worth is what the hold of that sum in a sandbox is worth. -/
noncomputable def Try.pinned : Pinned := { name := "ytjpfagkepmkeaaa", sum := "2a286812f342eb6f01c145957d40469d5e84040aa7ad6767755d3be2c29705f6", checked := Try.checked }
namespace Rows
def none {H : Type} : Left H := { results := [], args := [] }

/-- 'laws.FnExactWaveStep': WHATEVER THE INPUT: true; the input reads as it did. -/
def fnExactWaveStepSpec : ChangeSpec := { name := "fnExactWaveStep", fn := fun _ => fun
  | [d1, d2, d3] => { results := [.lit (.bool true)], args := [d1, d2, d3] }
  | _ => none }
def fnExactWaveStepRow : OpenClaim := { program := "ytjpfagkepmkeaaa", sum := "2a286812f342eb6f01c145957d40469d5e84040aa7ad6767755d3be2c29705f6", func := "loop.example/videocodec/laws.FnExactWaveStep", spec := "fnExactWaveStep", apart := false }
def FnExactWaveStepSaid : Prop := fnExactWaveStepRow.holds Try.pinned (OpenSpec.ofChange fnExactWaveStepSpec)

/-- ITS FALSE NEIGHBOUR: 'it returns false'. Refute it at one input. -/
def fnExactWaveStepWrong : ChangeSpec := { name := "fnExactWaveStep", fn := fun _ => fun
  | [d1, d2, d3] => { results := [.lit (.bool false)], args := [d1, d2, d3] }
  | _ => none }
def FnExactWaveStepWrongFalsely : Prop := fnExactWaveStepRow.holds Try.pinned (OpenSpec.ofChange fnExactWaveStepWrong)

/-- 'laws.FnExactToLuma': WHATEVER THE INPUT: true; the input reads as it did. -/
def fnExactToLumaSpec : ChangeSpec := { name := "fnExactToLuma", fn := fun _ => fun
  | [d] => { results := [.lit (.bool true)], args := [d] }
  | _ => none }
def fnExactToLumaRow : OpenClaim := { program := "ytjpfagkepmkeaaa", sum := "2a286812f342eb6f01c145957d40469d5e84040aa7ad6767755d3be2c29705f6", func := "loop.example/videocodec/laws.FnExactToLuma", spec := "fnExactToLuma", apart := false }
def FnExactToLumaSaid : Prop := fnExactToLumaRow.holds Try.pinned (OpenSpec.ofChange fnExactToLumaSpec)

/-- ITS FALSE NEIGHBOUR: 'it returns false'. Refute it at one input. -/
def fnExactToLumaWrong : ChangeSpec := { name := "fnExactToLuma", fn := fun _ => fun
  | [d] => { results := [.lit (.bool false)], args := [d] }
  | _ => none }
def FnExactToLumaWrongFalsely : Prop := fnExactToLumaRow.holds Try.pinned (OpenSpec.ofChange fnExactToLumaWrong)

/-- 'laws.FnExactDoubleChroma': WHATEVER THE INPUT: true; the input reads as it did. -/
def fnExactDoubleChromaSpec : ChangeSpec := { name := "fnExactDoubleChroma", fn := fun _ => fun
  | [d1, d2] => { results := [.lit (.bool true)], args := [d1, d2] }
  | _ => none }
def fnExactDoubleChromaRow : OpenClaim := { program := "ytjpfagkepmkeaaa", sum := "2a286812f342eb6f01c145957d40469d5e84040aa7ad6767755d3be2c29705f6", func := "loop.example/videocodec/laws.FnExactDoubleChroma", spec := "fnExactDoubleChroma", apart := false }
def FnExactDoubleChromaSaid : Prop := fnExactDoubleChromaRow.holds Try.pinned (OpenSpec.ofChange fnExactDoubleChromaSpec)

/-- ITS FALSE NEIGHBOUR: 'it returns false'. Refute it at one input. -/
def fnExactDoubleChromaWrong : ChangeSpec := { name := "fnExactDoubleChroma", fn := fun _ => fun
  | [d1, d2] => { results := [.lit (.bool false)], args := [d1, d2] }
  | _ => none }
def FnExactDoubleChromaWrongFalsely : Prop := fnExactDoubleChromaRow.holds Try.pinned (OpenSpec.ofChange fnExactDoubleChromaWrong)

/-- 'laws.FnExactFromLuma': WHATEVER THE INPUT: true; the input reads as it did. -/
def fnExactFromLumaSpec : ChangeSpec := { name := "fnExactFromLuma", fn := fun _ => fun
  | [d] => { results := [.lit (.bool true)], args := [d] }
  | _ => none }
def fnExactFromLumaRow : OpenClaim := { program := "ytjpfagkepmkeaaa", sum := "2a286812f342eb6f01c145957d40469d5e84040aa7ad6767755d3be2c29705f6", func := "loop.example/videocodec/laws.FnExactFromLuma", spec := "fnExactFromLuma", apart := false }
def FnExactFromLumaSaid : Prop := fnExactFromLumaRow.holds Try.pinned (OpenSpec.ofChange fnExactFromLumaSpec)

/-- ITS FALSE NEIGHBOUR: 'it returns false'. Refute it at one input. -/
def fnExactFromLumaWrong : ChangeSpec := { name := "fnExactFromLuma", fn := fun _ => fun
  | [d] => { results := [.lit (.bool false)], args := [d] }
  | _ => none }
def FnExactFromLumaWrongFalsely : Prop := fnExactFromLumaRow.holds Try.pinned (OpenSpec.ofChange fnExactFromLumaWrong)

/-- 'laws.FnExactWaveNeeds': WHATEVER THE INPUT: true; the input reads as it did. -/
def fnExactWaveNeedsSpec : ChangeSpec := { name := "fnExactWaveNeeds", fn := fun _ => fun
  | [d1, d2, d3] => { results := [.lit (.bool true)], args := [d1, d2, d3] }
  | _ => none }
def fnExactWaveNeedsRow : OpenClaim := { program := "ytjpfagkepmkeaaa", sum := "2a286812f342eb6f01c145957d40469d5e84040aa7ad6767755d3be2c29705f6", func := "loop.example/videocodec/laws.FnExactWaveNeeds", spec := "fnExactWaveNeeds", apart := false }
def FnExactWaveNeedsSaid : Prop := fnExactWaveNeedsRow.holds Try.pinned (OpenSpec.ofChange fnExactWaveNeedsSpec)

/-- ITS FALSE NEIGHBOUR: 'it returns false'. Refute it at one input. -/
def fnExactWaveNeedsWrong : ChangeSpec := { name := "fnExactWaveNeeds", fn := fun _ => fun
  | [d1, d2, d3] => { results := [.lit (.bool false)], args := [d1, d2, d3] }
  | _ => none }
def FnExactWaveNeedsWrongFalsely : Prop := fnExactWaveNeedsRow.holds Try.pinned (OpenSpec.ofChange fnExactWaveNeedsWrong)

/-- 'laws.FnExactHalveChroma': WHATEVER THE INPUT: true; the input reads as it did. -/
def fnExactHalveChromaSpec : ChangeSpec := { name := "fnExactHalveChroma", fn := fun _ => fun
  | [d1, d2] => { results := [.lit (.bool true)], args := [d1, d2] }
  | _ => none }
def fnExactHalveChromaRow : OpenClaim := { program := "ytjpfagkepmkeaaa", sum := "2a286812f342eb6f01c145957d40469d5e84040aa7ad6767755d3be2c29705f6", func := "loop.example/videocodec/laws.FnExactHalveChroma", spec := "fnExactHalveChroma", apart := false }
def FnExactHalveChromaSaid : Prop := fnExactHalveChromaRow.holds Try.pinned (OpenSpec.ofChange fnExactHalveChromaSpec)

/-- ITS FALSE NEIGHBOUR: 'it returns false'. Refute it at one input. -/
def fnExactHalveChromaWrong : ChangeSpec := { name := "fnExactHalveChroma", fn := fun _ => fun
  | [d1, d2] => { results := [.lit (.bool false)], args := [d1, d2] }
  | _ => none }
def FnExactHalveChromaWrongFalsely : Prop := fnExactHalveChromaRow.holds Try.pinned (OpenSpec.ofChange fnExactHalveChromaWrong)

/- THE SECOND FORM. 'bulk': how many values and letters a reading holds, each counted each time it is reached (what is shared counts as often as it is met; a slice's spare places count too). A statement '..UptoSaid' is the law's where the arguments, and the package variables that the reading takes, are together of bulk at most 1048576: NARROWER than '..Said'. Prove '..Said' where nothing that the law and all that it calls make is longer than what came in: it says more and counts as full. Else prove '..UptoSaid'. A law counts once. -/
mutual
def uptoBulk {H : Type} : DataW H → Nat
  | .lit (.string bytes) => bytes.length + 1
  | .lit _ => 1
  | .nil => 1
  | .ptr d => uptoBulk d + 1
  | .slice elems spare => uptoBulkAll elems + uptoBulkAll spare + 1
  | .agg parts => uptoBulkAll parts + 1
  | .iface _ d => uptoBulk d + 1
  | .map entries => uptoBulkEntries entries + 1
  | .held _ => 1
def uptoBulkAll {H : Type} : List (DataW H) → Nat
  | [] => 0
  | d :: r => uptoBulk d + uptoBulkAll r
def uptoBulkEntries {H : Type} : List (Lit × DataW H) → Nat
  | [] => 0
  | x :: r => uptoBulkEntry x + uptoBulkEntries r
def uptoBulkEntry {H : Type} : Lit × DataW H → Nat
  | (.string bytes, d) => bytes.length + uptoBulk d + 1
  | (_, d) => uptoBulk d + 1
 end
def uptoSmall : (H : Type) → List (DataW H) → Bool := fun _ ds => decide (uptoBulkAll ds ≤ 1048576)
def OpenSpec.upto (s : _root_.Go.ChangeSpec) : _root_.Go.OpenSpec := { _root_.Go.OpenSpec.ofChange s with cond := some uptoSmall }

/-- 'laws.FnExactWaveStep', WHERE WHAT IT READS IS OF BULK AT MOST 1048576: true; the input reads as it did. -/
def fnExactWaveStepUptoRow : OpenClaim := { program := "ytjpfagkepmkeaaa", sum := "2a286812f342eb6f01c145957d40469d5e84040aa7ad6767755d3be2c29705f6", func := "loop.example/videocodec/laws.FnExactWaveStep", spec := "fnExactWaveStep", apart := false, narrowed := true }
def FnExactWaveStepUptoSaid : Prop := fnExactWaveStepUptoRow.holds Try.pinned (OpenSpec.upto fnExactWaveStepSpec)

/-- 'laws.FnExactToLuma', WHERE WHAT IT READS IS OF BULK AT MOST 1048576: true; the input reads as it did. -/
def fnExactToLumaUptoRow : OpenClaim := { program := "ytjpfagkepmkeaaa", sum := "2a286812f342eb6f01c145957d40469d5e84040aa7ad6767755d3be2c29705f6", func := "loop.example/videocodec/laws.FnExactToLuma", spec := "fnExactToLuma", apart := false, narrowed := true }
def FnExactToLumaUptoSaid : Prop := fnExactToLumaUptoRow.holds Try.pinned (OpenSpec.upto fnExactToLumaSpec)

/-- 'laws.FnExactDoubleChroma', WHERE WHAT IT READS IS OF BULK AT MOST 1048576: true; the input reads as it did. -/
def fnExactDoubleChromaUptoRow : OpenClaim := { program := "ytjpfagkepmkeaaa", sum := "2a286812f342eb6f01c145957d40469d5e84040aa7ad6767755d3be2c29705f6", func := "loop.example/videocodec/laws.FnExactDoubleChroma", spec := "fnExactDoubleChroma", apart := false, narrowed := true }
def FnExactDoubleChromaUptoSaid : Prop := fnExactDoubleChromaUptoRow.holds Try.pinned (OpenSpec.upto fnExactDoubleChromaSpec)

/-- 'laws.FnExactFromLuma', WHERE WHAT IT READS IS OF BULK AT MOST 1048576: true; the input reads as it did. -/
def fnExactFromLumaUptoRow : OpenClaim := { program := "ytjpfagkepmkeaaa", sum := "2a286812f342eb6f01c145957d40469d5e84040aa7ad6767755d3be2c29705f6", func := "loop.example/videocodec/laws.FnExactFromLuma", spec := "fnExactFromLuma", apart := false, narrowed := true }
def FnExactFromLumaUptoSaid : Prop := fnExactFromLumaUptoRow.holds Try.pinned (OpenSpec.upto fnExactFromLumaSpec)

/-- 'laws.FnExactWaveNeeds', WHERE WHAT IT READS IS OF BULK AT MOST 1048576: true; the input reads as it did. -/
def fnExactWaveNeedsUptoRow : OpenClaim := { program := "ytjpfagkepmkeaaa", sum := "2a286812f342eb6f01c145957d40469d5e84040aa7ad6767755d3be2c29705f6", func := "loop.example/videocodec/laws.FnExactWaveNeeds", spec := "fnExactWaveNeeds", apart := false, narrowed := true }
def FnExactWaveNeedsUptoSaid : Prop := fnExactWaveNeedsUptoRow.holds Try.pinned (OpenSpec.upto fnExactWaveNeedsSpec)

/-- 'laws.FnExactHalveChroma', WHERE WHAT IT READS IS OF BULK AT MOST 1048576: true; the input reads as it did. -/
def fnExactHalveChromaUptoRow : OpenClaim := { program := "ytjpfagkepmkeaaa", sum := "2a286812f342eb6f01c145957d40469d5e84040aa7ad6767755d3be2c29705f6", func := "loop.example/videocodec/laws.FnExactHalveChroma", spec := "fnExactHalveChroma", apart := false, narrowed := true }
def FnExactHalveChromaUptoSaid : Prop := fnExactHalveChromaUptoRow.holds Try.pinned (OpenSpec.upto fnExactHalveChromaSpec)

end Rows
end Go.Proofs.Ytjpfagkepmkeaaa
