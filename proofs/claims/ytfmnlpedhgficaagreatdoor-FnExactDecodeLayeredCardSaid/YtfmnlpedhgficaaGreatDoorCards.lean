/-
  DERIVED. GIVEN WITH THE SEED: THE CARDS: each row of YtfmnlpedhgficaaGreatDoorRows.lean that lists a variable, with what it lists TIED to the program's text (the seventh form; the later family's looks); each row that meets fmt, with fmt's text TOLD by the authors' own Lean function (tested against real Go, not proved from fmt's source: count such statements apart). THE CARD IS WHAT COUNTS. Prove the row's statement (the work); the ties are given (YtfmnlpedhgficaaGreatDoorTie.lean); close each card by the builder's one call (the guide's Derived/Test/ToyasCard.lean, 'card_holds'). Laid BY PROGRAM, IN A SANDBOX (cutbox-door.mjs). By AI agents, Wed Nov 11 2026. No macro, syntax, notation, axiom, sorry.
-/
import Derived.Test.YtfmnlpedhgficaaGreatDoorRows
import GoSem.ClaimSeven
namespace Go.Proofs.YtfmnlpedhgficaaGreatDoor
namespace Rows

/-- THE TIED CARD OF 'laws.FnExactDecodeLayered'. -/
def fnExactDecodeLayeredCard : Claim7 := { stood := { row := fnExactDecodeLayeredRow, standIns := [], harness := (true, "cc3891cd46136ccec40dc751a55814822d5b93eb50def36e8fc59793918ccded"), looks := true }, kinds := [], alts := [], goes := true, laidByText := true, laidKinds := [.data, .data, .sentinel, .sentinel, .data], laidTests := true, laidLooks := .later }
def FnExactDecodeLayeredCardSaid : Prop := Claim7.holds Tryz.pinned (.plain (OpenSpec.ofChange fnExactDecodeLayeredSpec)) fnExactDecodeLayeredCard

/-- THE SECOND FORM's CARD OF 'laws.FnExactDecodeLayered'. -/
def fnExactDecodeLayeredUptoCard : Claim7 := { stood := { row := fnExactDecodeLayeredUptoRow, standIns := [], harness := (true, "cc3891cd46136ccec40dc751a55814822d5b93eb50def36e8fc59793918ccded"), looks := true }, kinds := [], alts := [], goes := true, laidByText := true, laidKinds := [.data, .data, .sentinel, .sentinel, .data], laidTests := true, laidLooks := .later }
def FnExactDecodeLayeredUptoCardSaid : Prop := Claim7.holds Tryz.pinned (.plain (OpenSpec.upto fnExactDecodeLayeredSpec)) fnExactDecodeLayeredUptoCard
end Rows
end Go.Proofs.YtfmnlpedhgficaaGreatDoor
