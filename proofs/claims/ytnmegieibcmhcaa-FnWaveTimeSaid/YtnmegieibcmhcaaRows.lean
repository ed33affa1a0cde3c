/-
  No cell of these rows narrows 'for every input' (looked for: loops, veiled, ifaces, maps, wideKeys, modest, calm, conditions, laid).
  DERIVED. THE GIVEN ROWS OF THIS SEAT. 12 by the template 'for every input the law returns true; each argument reads behind the call as it read before'; 0 by the template 'total and deterministic' (their statements: YtnmegieibcmhcaaTotals.lean).
  GIVEN WITH THE SEED: the statements are not yours to turn. If you find one false, say at which input.
  Laid BY PROGRAM, IN A SANDBOX (cutbox-rows.mjs): the forced cells as the released guide's own fill.sh prints them over the translation a8b37ab8c7b2a4ac… (all of the seat's roots in one cut). By AI agents, Wed Nov 11 2026. No macro, syntax, notation, axiom, sorry.
-/
import Derived.Test.YtnmegieibcmhcaaChecked
import GoSem.Claim
import GoSem.ClaimJoined
import GoSem.ClaimMapViews
import Derived.JoinedTies
import Derived.KernelRfl
namespace Go.Proofs.Ytnmegieibcmhcaa
/- THE CELL 'sum', in the pinned program and in every row, IS THE sha256 OF THE DUMP (.gsa) THAT YtnmegieibcmhcaaProg.lean LOADS. Nothing in Lean hashes anything: it is a label: what it is worth is what the hold of that sum in a sandbox is worth. -/
noncomputable def Try.pinned : Pinned := { name := "ytnmegieibcmhcaa", sum := "a8b37ab8c7b2a4ac199503cf430ec808fd832206d16449c45d9096491c8a5528", checked := Try.checked }
namespace Rows
def none {H : Type} : Left H := { results := [], args := [] }

/-- 'laws.FnToLuma': WHATEVER THE INPUT: true; the input reads as it did. -/
def fnToLumaSpec : ChangeSpec := { name := "fnToLuma", fn := fun _ => fun
  | [d] => { results := [.lit (.bool true)], args := [d] }
  | _ => none }
def fnToLumaRow : OpenClaim := { program := "ytnmegieibcmhcaa", sum := "a8b37ab8c7b2a4ac199503cf430ec808fd832206d16449c45d9096491c8a5528", func := "loop.example/videocodec/laws.FnToLuma", spec := "fnToLuma", apart := false }
def FnToLumaSaid : Prop := fnToLumaRow.holds Try.pinned (OpenSpec.ofChange fnToLumaSpec)

/-- ITS FALSE NEIGHBOUR: 'it returns false'. Refute it at one input. -/
def fnToLumaWrong : ChangeSpec := { name := "fnToLuma", fn := fun _ => fun
  | [d] => { results := [.lit (.bool false)], args := [d] }
  | _ => none }
def FnToLumaWrongFalsely : Prop := fnToLumaRow.holds Try.pinned (OpenSpec.ofChange fnToLumaWrong)

/-- 'laws.FnExactOrderValid': WHATEVER THE INPUT: true; the input reads as it did. -/
def fnExactOrderValidSpec : ChangeSpec := { name := "fnExactOrderValid", fn := fun _ => fun
  | [d1, d2, d3] => { results := [.lit (.bool true)], args := [d1, d2, d3] }
  | _ => none }
def fnExactOrderValidRow : OpenClaim := { program := "ytnmegieibcmhcaa", sum := "a8b37ab8c7b2a4ac199503cf430ec808fd832206d16449c45d9096491c8a5528", func := "loop.example/videocodec/laws.FnExactOrderValid", spec := "fnExactOrderValid", apart := false }
def FnExactOrderValidSaid : Prop := fnExactOrderValidRow.holds Try.pinned (OpenSpec.ofChange fnExactOrderValidSpec)

/-- ITS FALSE NEIGHBOUR: 'it returns false'. Refute it at one input. -/
def fnExactOrderValidWrong : ChangeSpec := { name := "fnExactOrderValid", fn := fun _ => fun
  | [d1, d2, d3] => { results := [.lit (.bool false)], args := [d1, d2, d3] }
  | _ => none }
def FnExactOrderValidWrongFalsely : Prop := fnExactOrderValidRow.holds Try.pinned (OpenSpec.ofChange fnExactOrderValidWrong)

/-- 'laws.FnDoubleChroma': WHATEVER THE INPUT: true; the input reads as it did. -/
def fnDoubleChromaSpec : ChangeSpec := { name := "fnDoubleChroma", fn := fun _ => fun
  | [d] => { results := [.lit (.bool true)], args := [d] }
  | _ => none }
def fnDoubleChromaRow : OpenClaim := { program := "ytnmegieibcmhcaa", sum := "a8b37ab8c7b2a4ac199503cf430ec808fd832206d16449c45d9096491c8a5528", func := "loop.example/videocodec/laws.FnDoubleChroma", spec := "fnDoubleChroma", apart := false }
def FnDoubleChromaSaid : Prop := fnDoubleChromaRow.holds Try.pinned (OpenSpec.ofChange fnDoubleChromaSpec)

/-- ITS FALSE NEIGHBOUR: 'it returns false'. Refute it at one input. -/
def fnDoubleChromaWrong : ChangeSpec := { name := "fnDoubleChroma", fn := fun _ => fun
  | [d] => { results := [.lit (.bool false)], args := [d] }
  | _ => none }
def FnDoubleChromaWrongFalsely : Prop := fnDoubleChromaRow.holds Try.pinned (OpenSpec.ofChange fnDoubleChromaWrong)

/-- 'laws.FnFromLuma': WHATEVER THE INPUT: true; the input reads as it did. -/
def fnFromLumaSpec : ChangeSpec := { name := "fnFromLuma", fn := fun _ => fun
  | [d] => { results := [.lit (.bool true)], args := [d] }
  | _ => none }
def fnFromLumaRow : OpenClaim := { program := "ytnmegieibcmhcaa", sum := "a8b37ab8c7b2a4ac199503cf430ec808fd832206d16449c45d9096491c8a5528", func := "loop.example/videocodec/laws.FnFromLuma", spec := "fnFromLuma", apart := false }
def FnFromLumaSaid : Prop := fnFromLumaRow.holds Try.pinned (OpenSpec.ofChange fnFromLumaSpec)

/-- ITS FALSE NEIGHBOUR: 'it returns false'. Refute it at one input. -/
def fnFromLumaWrong : ChangeSpec := { name := "fnFromLuma", fn := fun _ => fun
  | [d] => { results := [.lit (.bool false)], args := [d] }
  | _ => none }
def FnFromLumaWrongFalsely : Prop := fnFromLumaRow.holds Try.pinned (OpenSpec.ofChange fnFromLumaWrong)

/-- 'laws.FnWaveStep': WHATEVER THE INPUT: true; the input reads as it did. -/
def fnWaveStepSpec : ChangeSpec := { name := "fnWaveStep", fn := fun _ => fun
  | [d] => { results := [.lit (.bool true)], args := [d] }
  | _ => none }
def fnWaveStepRow : OpenClaim := { program := "ytnmegieibcmhcaa", sum := "a8b37ab8c7b2a4ac199503cf430ec808fd832206d16449c45d9096491c8a5528", func := "loop.example/videocodec/laws.FnWaveStep", spec := "fnWaveStep", apart := false }
def FnWaveStepSaid : Prop := fnWaveStepRow.holds Try.pinned (OpenSpec.ofChange fnWaveStepSpec)

/-- ITS FALSE NEIGHBOUR: 'it returns false'. Refute it at one input. -/
def fnWaveStepWrong : ChangeSpec := { name := "fnWaveStep", fn := fun _ => fun
  | [d] => { results := [.lit (.bool false)], args := [d] }
  | _ => none }
def FnWaveStepWrongFalsely : Prop := fnWaveStepRow.holds Try.pinned (OpenSpec.ofChange fnWaveStepWrong)

/-- 'laws.FnWaveNeeds': WHATEVER THE INPUT: true; the input reads as it did. -/
def fnWaveNeedsSpec : ChangeSpec := { name := "fnWaveNeeds", fn := fun _ => fun
  | [d] => { results := [.lit (.bool true)], args := [d] }
  | _ => none }
def fnWaveNeedsRow : OpenClaim := { program := "ytnmegieibcmhcaa", sum := "a8b37ab8c7b2a4ac199503cf430ec808fd832206d16449c45d9096491c8a5528", func := "loop.example/videocodec/laws.FnWaveNeeds", spec := "fnWaveNeeds", apart := false }
def FnWaveNeedsSaid : Prop := fnWaveNeedsRow.holds Try.pinned (OpenSpec.ofChange fnWaveNeedsSpec)

/-- ITS FALSE NEIGHBOUR: 'it returns false'. Refute it at one input. -/
def fnWaveNeedsWrong : ChangeSpec := { name := "fnWaveNeeds", fn := fun _ => fun
  | [d] => { results := [.lit (.bool false)], args := [d] }
  | _ => none }
def FnWaveNeedsWrongFalsely : Prop := fnWaveNeedsRow.holds Try.pinned (OpenSpec.ofChange fnWaveNeedsWrong)

/-- 'laws.FnHalveChroma': WHATEVER THE INPUT: true; the input reads as it did. -/
def fnHalveChromaSpec : ChangeSpec := { name := "fnHalveChroma", fn := fun _ => fun
  | [d] => { results := [.lit (.bool true)], args := [d] }
  | _ => none }
def fnHalveChromaRow : OpenClaim := { program := "ytnmegieibcmhcaa", sum := "a8b37ab8c7b2a4ac199503cf430ec808fd832206d16449c45d9096491c8a5528", func := "loop.example/videocodec/laws.FnHalveChroma", spec := "fnHalveChroma", apart := false }
def FnHalveChromaSaid : Prop := fnHalveChromaRow.holds Try.pinned (OpenSpec.ofChange fnHalveChromaSpec)

/-- ITS FALSE NEIGHBOUR: 'it returns false'. Refute it at one input. -/
def fnHalveChromaWrong : ChangeSpec := { name := "fnHalveChroma", fn := fun _ => fun
  | [d] => { results := [.lit (.bool false)], args := [d] }
  | _ => none }
def FnHalveChromaWrongFalsely : Prop := fnHalveChromaRow.holds Try.pinned (OpenSpec.ofChange fnHalveChromaWrong)

/-- 'laws.FnOrderValid': WHATEVER THE INPUT: true; the input reads as it did. -/
def fnOrderValidSpec : ChangeSpec := { name := "fnOrderValid", fn := fun _ => fun
  | [d] => { results := [.lit (.bool true)], args := [d] }
  | _ => none }
def fnOrderValidRow : OpenClaim := { program := "ytnmegieibcmhcaa", sum := "a8b37ab8c7b2a4ac199503cf430ec808fd832206d16449c45d9096491c8a5528", func := "loop.example/videocodec/laws.FnOrderValid", spec := "fnOrderValid", apart := false }
def FnOrderValidSaid : Prop := fnOrderValidRow.holds Try.pinned (OpenSpec.ofChange fnOrderValidSpec)

/-- ITS FALSE NEIGHBOUR: 'it returns false'. Refute it at one input. -/
def fnOrderValidWrong : ChangeSpec := { name := "fnOrderValid", fn := fun _ => fun
  | [d] => { results := [.lit (.bool false)], args := [d] }
  | _ => none }
def FnOrderValidWrongFalsely : Prop := fnOrderValidRow.holds Try.pinned (OpenSpec.ofChange fnOrderValidWrong)

/-- 'laws.FnExactWaveOrder': WHATEVER THE INPUT: true; the input reads as it did. -/
def fnExactWaveOrderSpec : ChangeSpec := { name := "fnExactWaveOrder", fn := fun _ => fun
  | [d1, d2] => { results := [.lit (.bool true)], args := [d1, d2] }
  | _ => none }
def fnExactWaveOrderRow : OpenClaim := { program := "ytnmegieibcmhcaa", sum := "a8b37ab8c7b2a4ac199503cf430ec808fd832206d16449c45d9096491c8a5528", func := "loop.example/videocodec/laws.FnExactWaveOrder", spec := "fnExactWaveOrder", unfollowed := true, recurses := true, apart := false }
def FnExactWaveOrderSaid : Prop := fnExactWaveOrderRow.holds Try.pinned (OpenSpec.ofChange fnExactWaveOrderSpec)

/-- ITS FALSE NEIGHBOUR: 'it returns false'. Refute it at one input. -/
def fnExactWaveOrderWrong : ChangeSpec := { name := "fnExactWaveOrder", fn := fun _ => fun
  | [d1, d2] => { results := [.lit (.bool false)], args := [d1, d2] }
  | _ => none }
def FnExactWaveOrderWrongFalsely : Prop := fnExactWaveOrderRow.holds Try.pinned (OpenSpec.ofChange fnExactWaveOrderWrong)

/-- 'laws.FnExactWaveTime': WHATEVER THE INPUT: true; the input reads as it did. -/
def fnExactWaveTimeSpec : ChangeSpec := { name := "fnExactWaveTime", fn := fun _ => fun
  | [d1, d2, d3] => { results := [.lit (.bool true)], args := [d1, d2, d3] }
  | _ => none }
def fnExactWaveTimeRow : OpenClaim := { program := "ytnmegieibcmhcaa", sum := "a8b37ab8c7b2a4ac199503cf430ec808fd832206d16449c45d9096491c8a5528", func := "loop.example/videocodec/laws.FnExactWaveTime", spec := "fnExactWaveTime", unfollowed := true, recurses := true, apart := false }
def FnExactWaveTimeSaid : Prop := fnExactWaveTimeRow.holds Try.pinned (OpenSpec.ofChange fnExactWaveTimeSpec)

/-- ITS FALSE NEIGHBOUR: 'it returns false'. Refute it at one input. -/
def fnExactWaveTimeWrong : ChangeSpec := { name := "fnExactWaveTime", fn := fun _ => fun
  | [d1, d2, d3] => { results := [.lit (.bool false)], args := [d1, d2, d3] }
  | _ => none }
def FnExactWaveTimeWrongFalsely : Prop := fnExactWaveTimeRow.holds Try.pinned (OpenSpec.ofChange fnExactWaveTimeWrong)

/-- 'laws.FnWaveOrder': WHATEVER THE INPUT: true; the input reads as it did. -/
def fnWaveOrderSpec : ChangeSpec := { name := "fnWaveOrder", fn := fun _ => fun
  | [d] => { results := [.lit (.bool true)], args := [d] }
  | _ => none }
def fnWaveOrderRow : OpenClaim := { program := "ytnmegieibcmhcaa", sum := "a8b37ab8c7b2a4ac199503cf430ec808fd832206d16449c45d9096491c8a5528", func := "loop.example/videocodec/laws.FnWaveOrder", spec := "fnWaveOrder", unfollowed := true, recurses := true, apart := false }
def FnWaveOrderSaid : Prop := fnWaveOrderRow.holds Try.pinned (OpenSpec.ofChange fnWaveOrderSpec)

/-- ITS FALSE NEIGHBOUR: 'it returns false'. Refute it at one input. -/
def fnWaveOrderWrong : ChangeSpec := { name := "fnWaveOrder", fn := fun _ => fun
  | [d] => { results := [.lit (.bool false)], args := [d] }
  | _ => none }
def FnWaveOrderWrongFalsely : Prop := fnWaveOrderRow.holds Try.pinned (OpenSpec.ofChange fnWaveOrderWrong)

/-- 'laws.FnWaveTime': WHATEVER THE INPUT: true; the input reads as it did. -/
def fnWaveTimeSpec : ChangeSpec := { name := "fnWaveTime", fn := fun _ => fun
  | [d] => { results := [.lit (.bool true)], args := [d] }
  | _ => none }
def fnWaveTimeRow : OpenClaim := { program := "ytnmegieibcmhcaa", sum := "a8b37ab8c7b2a4ac199503cf430ec808fd832206d16449c45d9096491c8a5528", func := "loop.example/videocodec/laws.FnWaveTime", spec := "fnWaveTime", unfollowed := true, recurses := true, apart := false }
def FnWaveTimeSaid : Prop := fnWaveTimeRow.holds Try.pinned (OpenSpec.ofChange fnWaveTimeSpec)

/-- ITS FALSE NEIGHBOUR: 'it returns false'. Refute it at one input. -/
def fnWaveTimeWrong : ChangeSpec := { name := "fnWaveTime", fn := fun _ => fun
  | [d] => { results := [.lit (.bool false)], args := [d] }
  | _ => none }
def FnWaveTimeWrongFalsely : Prop := fnWaveTimeRow.holds Try.pinned (OpenSpec.ofChange fnWaveTimeWrong)

/- THE SECOND FORM. 'bulk': how many values and letters a reading holds, each counted each time it is reached (what is shared counts as often as it is met; a slice's spare places count too). A statement '..UptoSaid' is the law's where the arguments, and the package variables that the reading takes, are together of bulk at most 1048576: NARROWER than '..Said'. Prove '..Said' where nothing that the law and all that it calls make is longer than what came in: it says more and counts as full. Else prove '..UptoSaid'. A law counts once. -/
mutual
def uptoBulk {H : Type} : DataW H → Nat
  | .lit (.string bytes) => bytes.length + 1
  | .lit _ => 1
  | .nil => 1
  | .ptr d => uptoBulk d + 1
  | .slice elems spare => uptoBulkAll elems + uptoBulkAll spare + 1
  | .agg parts => uptoBulkAll parts + 1
  | .iface _ d => uptoBulk d + 1
  | .map entries => uptoBulkEntries entries + 1
  | .held _ => 1
def uptoBulkAll {H : Type} : List (DataW H) → Nat
  | [] => 0
  | d :: r => uptoBulk d + uptoBulkAll r
def uptoBulkEntries {H : Type} : List (Lit × DataW H) → Nat
  | [] => 0
  | x :: r => uptoBulkEntry x + uptoBulkEntries r
def uptoBulkEntry {H : Type} : Lit × DataW H → Nat
  | (.string bytes, d) => bytes.length + uptoBulk d + 1
  | (_, d) => uptoBulk d + 1
 end
def uptoSmall : (H : Type) → List (DataW H) → Bool := fun _ ds => decide (uptoBulkAll ds ≤ 1048576)
def OpenSpec.upto (s : _root_.Go.ChangeSpec) : _root_.Go.OpenSpec := { _root_.Go.OpenSpec.ofChange s with cond := some uptoSmall }

/-- 'laws.FnToLuma', WHERE WHAT IT READS IS OF BULK AT MOST 1048576: true; the input reads as it did. -/
def fnToLumaUptoRow : OpenClaim := { program := "ytnmegieibcmhcaa", sum := "a8b37ab8c7b2a4ac199503cf430ec808fd832206d16449c45d9096491c8a5528", func := "loop.example/videocodec/laws.FnToLuma", spec := "fnToLuma", apart := false, narrowed := true }
def FnToLumaUptoSaid : Prop := fnToLumaUptoRow.holds Try.pinned (OpenSpec.upto fnToLumaSpec)

/-- 'laws.FnExactOrderValid', WHERE WHAT IT READS IS OF BULK AT MOST 1048576: true; the input reads as it did. -/
def fnExactOrderValidUptoRow : OpenClaim := { program := "ytnmegieibcmhcaa", sum := "a8b37ab8c7b2a4ac199503cf430ec808fd832206d16449c45d9096491c8a5528", func := "loop.example/videocodec/laws.FnExactOrderValid", spec := "fnExactOrderValid", apart := false, narrowed := true }
def FnExactOrderValidUptoSaid : Prop := fnExactOrderValidUptoRow.holds Try.pinned (OpenSpec.upto fnExactOrderValidSpec)

/-- 'laws.FnDoubleChroma', WHERE WHAT IT READS IS OF BULK AT MOST 1048576: true; the input reads as it did. -/
def fnDoubleChromaUptoRow : OpenClaim := { program := "ytnmegieibcmhcaa", sum := "a8b37ab8c7b2a4ac199503cf430ec808fd832206d16449c45d9096491c8a5528", func := "loop.example/videocodec/laws.FnDoubleChroma", spec := "fnDoubleChroma", apart := false, narrowed := true }
def FnDoubleChromaUptoSaid : Prop := fnDoubleChromaUptoRow.holds Try.pinned (OpenSpec.upto fnDoubleChromaSpec)

/-- 'laws.FnFromLuma', WHERE WHAT IT READS IS OF BULK AT MOST 1048576: true; the input reads as it did. -/
def fnFromLumaUptoRow : OpenClaim := { program := "ytnmegieibcmhcaa", sum := "a8b37ab8c7b2a4ac199503cf430ec808fd832206d16449c45d9096491c8a5528", func := "loop.example/videocodec/laws.FnFromLuma", spec := "fnFromLuma", apart := false, narrowed := true }
def FnFromLumaUptoSaid : Prop := fnFromLumaUptoRow.holds Try.pinned (OpenSpec.upto fnFromLumaSpec)

/-- 'laws.FnWaveStep', WHERE WHAT IT READS IS OF BULK AT MOST 1048576: true; the input reads as it did. -/
def fnWaveStepUptoRow : OpenClaim := { program := "ytnmegieibcmhcaa", sum := "a8b37ab8c7b2a4ac199503cf430ec808fd832206d16449c45d9096491c8a5528", func := "loop.example/videocodec/laws.FnWaveStep", spec := "fnWaveStep", apart := false, narrowed := true }
def FnWaveStepUptoSaid : Prop := fnWaveStepUptoRow.holds Try.pinned (OpenSpec.upto fnWaveStepSpec)

/-- 'laws.FnWaveNeeds', WHERE WHAT IT READS IS OF BULK AT MOST 1048576: true; the input reads as it did. -/
def fnWaveNeedsUptoRow : OpenClaim := { program := "ytnmegieibcmhcaa", sum := "a8b37ab8c7b2a4ac199503cf430ec808fd832206d16449c45d9096491c8a5528", func := "loop.example/videocodec/laws.FnWaveNeeds", spec := "fnWaveNeeds", apart := false, narrowed := true }
def FnWaveNeedsUptoSaid : Prop := fnWaveNeedsUptoRow.holds Try.pinned (OpenSpec.upto fnWaveNeedsSpec)

/-- 'laws.FnHalveChroma', WHERE WHAT IT READS IS OF BULK AT MOST 1048576: true; the input reads as it did. -/
def fnHalveChromaUptoRow : OpenClaim := { program := "ytnmegieibcmhcaa", sum := "a8b37ab8c7b2a4ac199503cf430ec808fd832206d16449c45d9096491c8a5528", func := "loop.example/videocodec/laws.FnHalveChroma", spec := "fnHalveChroma", apart := false, narrowed := true }
def FnHalveChromaUptoSaid : Prop := fnHalveChromaUptoRow.holds Try.pinned (OpenSpec.upto fnHalveChromaSpec)

/-- 'laws.FnOrderValid', WHERE WHAT IT READS IS OF BULK AT MOST 1048576: true; the input reads as it did. -/
def fnOrderValidUptoRow : OpenClaim := { program := "ytnmegieibcmhcaa", sum := "a8b37ab8c7b2a4ac199503cf430ec808fd832206d16449c45d9096491c8a5528", func := "loop.example/videocodec/laws.FnOrderValid", spec := "fnOrderValid", apart := false, narrowed := true }
def FnOrderValidUptoSaid : Prop := fnOrderValidUptoRow.holds Try.pinned (OpenSpec.upto fnOrderValidSpec)

/-- 'laws.FnExactWaveOrder', WHERE WHAT IT READS IS OF BULK AT MOST 1048576: true; the input reads as it did. -/
def fnExactWaveOrderUptoRow : OpenClaim := { program := "ytnmegieibcmhcaa", sum := "a8b37ab8c7b2a4ac199503cf430ec808fd832206d16449c45d9096491c8a5528", func := "loop.example/videocodec/laws.FnExactWaveOrder", spec := "fnExactWaveOrder", unfollowed := true, recurses := true, apart := false, narrowed := true }
def FnExactWaveOrderUptoSaid : Prop := fnExactWaveOrderUptoRow.holds Try.pinned (OpenSpec.upto fnExactWaveOrderSpec)

/-- 'laws.FnExactWaveTime', WHERE WHAT IT READS IS OF BULK AT MOST 1048576: true; the input reads as it did. -/
def fnExactWaveTimeUptoRow : OpenClaim := { program := "ytnmegieibcmhcaa", sum := "a8b37ab8c7b2a4ac199503cf430ec808fd832206d16449c45d9096491c8a5528", func := "loop.example/videocodec/laws.FnExactWaveTime", spec := "fnExactWaveTime", unfollowed := true, recurses := true, apart := false, narrowed := true }
def FnExactWaveTimeUptoSaid : Prop := fnExactWaveTimeUptoRow.holds Try.pinned (OpenSpec.upto fnExactWaveTimeSpec)

/-- 'laws.FnWaveOrder', WHERE WHAT IT READS IS OF BULK AT MOST 1048576: true; the input reads as it did. -/
def fnWaveOrderUptoRow : OpenClaim := { program := "ytnmegieibcmhcaa", sum := "a8b37ab8c7b2a4ac199503cf430ec808fd832206d16449c45d9096491c8a5528", func := "loop.example/videocodec/laws.FnWaveOrder", spec := "fnWaveOrder", unfollowed := true, recurses := true, apart := false, narrowed := true }
def FnWaveOrderUptoSaid : Prop := fnWaveOrderUptoRow.holds Try.pinned (OpenSpec.upto fnWaveOrderSpec)

/-- 'laws.FnWaveTime', WHERE WHAT IT READS IS OF BULK AT MOST 1048576: true; the input reads as it did. -/
def fnWaveTimeUptoRow : OpenClaim := { program := "ytnmegieibcmhcaa", sum := "a8b37ab8c7b2a4ac199503cf430ec808fd832206d16449c45d9096491c8a5528", func := "loop.example/videocodec/laws.FnWaveTime", spec := "fnWaveTime", unfollowed := true, recurses := true, apart := false, narrowed := true }
def FnWaveTimeUptoSaid : Prop := fnWaveTimeUptoRow.holds Try.pinned (OpenSpec.upto fnWaveTimeSpec)

end Rows
end Go.Proofs.Ytnmegieibcmhcaa
