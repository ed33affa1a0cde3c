/-
  DERIVED. GIVEN WITH THE SEED: THE CARDS: each row of YtkdmhlbmhjolcaaDoorRows.lean that lists a variable, with what it lists TIED to the program's text (the seventh form; the later family's looks); each row that meets fmt, with fmt's text TOLD by the authors' own Lean function (tested against real Go, not proved from fmt's source: count such statements apart). THE CARD IS WHAT COUNTS. Prove the row's statement (the work); the ties are given (YtkdmhlbmhjolcaaDoorTie.lean); close each card by the builder's one call (the guide's Derived/Test/ToyasCard.lean, 'card_holds'). Laid BY PROGRAM, IN A SANDBOX (cutbox-door.mjs). By AI agents, Wed Nov 11 2026. No macro, syntax, notation, axiom, sorry.
-/
import Derived.Test.YtkdmhlbmhjolcaaDoorRows
import GoSem.ClaimSeven
namespace Go.Proofs.YtkdmhlbmhjolcaaDoor
namespace Rows

/-- THE TIED CARD OF 'laws.FnExactCoefficientError'. -/
def fnExactCoefficientErrorCard : Claim7 := { stood := { row := fnExactCoefficientErrorRow, standIns := [], harness := (true, "0fd288b46d60ce385de9de263cac55858d689a7fd72835178befc519f3b9e924"), looks := false }, kinds := [], alts := [], laidByText := true, laidKinds := [.data], laidTests := true, laidLooks := .later }
def FnExactCoefficientErrorCardSaid : Prop := Claim7.holds Tryd.pinned (.plain (OpenSpec.ofChange fnExactCoefficientErrorSpec)) fnExactCoefficientErrorCard

/-- THE TIED CARD OF 'laws.FnExactJoinLayers'. -/
def fnExactJoinLayersCard : Claim7 := { stood := { row := fnExactJoinLayersRow, standIns := [], harness := (true, "0fd288b46d60ce385de9de263cac55858d689a7fd72835178befc519f3b9e924"), looks := false }, kinds := [], alts := [], laidByText := true, laidKinds := [.data], laidTests := true, laidLooks := .later }
def FnExactJoinLayersCardSaid : Prop := Claim7.holds Tryd.pinned (.plain (OpenSpec.ofChange fnExactJoinLayersSpec)) fnExactJoinLayersCard

/-- THE TIED CARD OF 'laws.FnExactTwoLayers'. -/
def fnExactTwoLayersCard : Claim7 := { stood := { row := fnExactTwoLayersRow, standIns := [], harness := (true, "0fd288b46d60ce385de9de263cac55858d689a7fd72835178befc519f3b9e924"), looks := false }, kinds := [], alts := [], laidByText := true, laidKinds := [.data], laidTests := true, laidLooks := .later }
def FnExactTwoLayersCardSaid : Prop := Claim7.holds Tryd.pinned (.plain (OpenSpec.ofChange fnExactTwoLayersSpec)) fnExactTwoLayersCard

/-- THE TIED CARD OF 'laws.FnQualityLadder'. -/
def fnQualityLadderCard : Claim7 := { stood := { row := fnQualityLadderRow, standIns := [], harness := (true, "0fd288b46d60ce385de9de263cac55858d689a7fd72835178befc519f3b9e924"), looks := false }, kinds := [], alts := [], laidByText := true, laidKinds := [.data], laidTests := true, laidLooks := .later }
def FnQualityLadderCardSaid : Prop := Claim7.holds Tryd.pinned (.plain (OpenSpec.ofChange fnQualityLadderSpec)) fnQualityLadderCard

/-- THE TIED CARD OF 'laws.FnCoefficientError'. -/
def fnCoefficientErrorCard : Claim7 := { stood := { row := fnCoefficientErrorRow, standIns := [], harness := (true, "0fd288b46d60ce385de9de263cac55858d689a7fd72835178befc519f3b9e924"), looks := false }, kinds := [], alts := [], laidByText := true, laidKinds := [.data], laidTests := true, laidLooks := .later }
def FnCoefficientErrorCardSaid : Prop := Claim7.holds Tryd.pinned (.plain (OpenSpec.ofChange fnCoefficientErrorSpec)) fnCoefficientErrorCard

/-- THE TIED CARD OF 'laws.FnJoinLayers'. -/
def fnJoinLayersCard : Claim7 := { stood := { row := fnJoinLayersRow, standIns := [], harness := (true, "0fd288b46d60ce385de9de263cac55858d689a7fd72835178befc519f3b9e924"), looks := false }, kinds := [], alts := [], laidByText := true, laidKinds := [.data], laidTests := true, laidLooks := .later }
def FnJoinLayersCardSaid : Prop := Claim7.holds Tryd.pinned (.plain (OpenSpec.ofChange fnJoinLayersSpec)) fnJoinLayersCard

/-- THE TIED CARD OF 'laws.FnTwoLayers'. -/
def fnTwoLayersCard : Claim7 := { stood := { row := fnTwoLayersRow, standIns := [], harness := (true, "0fd288b46d60ce385de9de263cac55858d689a7fd72835178befc519f3b9e924"), looks := false }, kinds := [], alts := [], laidByText := true, laidKinds := [.data], laidTests := true, laidLooks := .later }
def FnTwoLayersCardSaid : Prop := Claim7.holds Tryd.pinned (.plain (OpenSpec.ofChange fnTwoLayersSpec)) fnTwoLayersCard

/-- THE SECOND FORM's CARD OF 'laws.FnExactCoefficientError'. -/
def fnExactCoefficientErrorUptoCard : Claim7 := { stood := { row := fnExactCoefficientErrorUptoRow, standIns := [], harness := (true, "0fd288b46d60ce385de9de263cac55858d689a7fd72835178befc519f3b9e924"), looks := false }, kinds := [], alts := [], laidByText := true, laidKinds := [.data], laidTests := true, laidLooks := .later }
def FnExactCoefficientErrorUptoCardSaid : Prop := Claim7.holds Tryd.pinned (.plain (OpenSpec.upto fnExactCoefficientErrorSpec)) fnExactCoefficientErrorUptoCard

/-- THE SECOND FORM's CARD OF 'laws.FnExactJoinLayers'. -/
def fnExactJoinLayersUptoCard : Claim7 := { stood := { row := fnExactJoinLayersUptoRow, standIns := [], harness := (true, "0fd288b46d60ce385de9de263cac55858d689a7fd72835178befc519f3b9e924"), looks := false }, kinds := [], alts := [], laidByText := true, laidKinds := [.data], laidTests := true, laidLooks := .later }
def FnExactJoinLayersUptoCardSaid : Prop := Claim7.holds Tryd.pinned (.plain (OpenSpec.upto fnExactJoinLayersSpec)) fnExactJoinLayersUptoCard

/-- THE SECOND FORM's CARD OF 'laws.FnExactTwoLayers'. -/
def fnExactTwoLayersUptoCard : Claim7 := { stood := { row := fnExactTwoLayersUptoRow, standIns := [], harness := (true, "0fd288b46d60ce385de9de263cac55858d689a7fd72835178befc519f3b9e924"), looks := false }, kinds := [], alts := [], laidByText := true, laidKinds := [.data], laidTests := true, laidLooks := .later }
def FnExactTwoLayersUptoCardSaid : Prop := Claim7.holds Tryd.pinned (.plain (OpenSpec.upto fnExactTwoLayersSpec)) fnExactTwoLayersUptoCard

/-- THE SECOND FORM's CARD OF 'laws.FnQualityLadder'. -/
def fnQualityLadderUptoCard : Claim7 := { stood := { row := fnQualityLadderUptoRow, standIns := [], harness := (true, "0fd288b46d60ce385de9de263cac55858d689a7fd72835178befc519f3b9e924"), looks := false }, kinds := [], alts := [], laidByText := true, laidKinds := [.data], laidTests := true, laidLooks := .later }
def FnQualityLadderUptoCardSaid : Prop := Claim7.holds Tryd.pinned (.plain (OpenSpec.upto fnQualityLadderSpec)) fnQualityLadderUptoCard

/-- THE SECOND FORM's CARD OF 'laws.FnCoefficientError'. -/
def fnCoefficientErrorUptoCard : Claim7 := { stood := { row := fnCoefficientErrorUptoRow, standIns := [], harness := (true, "0fd288b46d60ce385de9de263cac55858d689a7fd72835178befc519f3b9e924"), looks := false }, kinds := [], alts := [], laidByText := true, laidKinds := [.data], laidTests := true, laidLooks := .later }
def FnCoefficientErrorUptoCardSaid : Prop := Claim7.holds Tryd.pinned (.plain (OpenSpec.upto fnCoefficientErrorSpec)) fnCoefficientErrorUptoCard

/-- THE SECOND FORM's CARD OF 'laws.FnJoinLayers'. -/
def fnJoinLayersUptoCard : Claim7 := { stood := { row := fnJoinLayersUptoRow, standIns := [], harness := (true, "0fd288b46d60ce385de9de263cac55858d689a7fd72835178befc519f3b9e924"), looks := false }, kinds := [], alts := [], laidByText := true, laidKinds := [.data], laidTests := true, laidLooks := .later }
def FnJoinLayersUptoCardSaid : Prop := Claim7.holds Tryd.pinned (.plain (OpenSpec.upto fnJoinLayersSpec)) fnJoinLayersUptoCard

/-- THE SECOND FORM's CARD OF 'laws.FnTwoLayers'. -/
def fnTwoLayersUptoCard : Claim7 := { stood := { row := fnTwoLayersUptoRow, standIns := [], harness := (true, "0fd288b46d60ce385de9de263cac55858d689a7fd72835178befc519f3b9e924"), looks := false }, kinds := [], alts := [], laidByText := true, laidKinds := [.data], laidTests := true, laidLooks := .later }
def FnTwoLayersUptoCardSaid : Prop := Claim7.holds Tryd.pinned (.plain (OpenSpec.upto fnTwoLayersSpec)) fnTwoLayersUptoCard
end Rows
end Go.Proofs.YtkdmhlbmhjolcaaDoor
