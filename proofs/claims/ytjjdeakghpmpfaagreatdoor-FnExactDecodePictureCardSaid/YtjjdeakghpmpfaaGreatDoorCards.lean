/-
  DERIVED. GIVEN WITH THE SEED: THE CARDS: each row of YtjjdeakghpmpfaaGreatDoorRows.lean that lists a variable, with what it lists TIED to the program's text (the seventh form; the later family's looks); each row that meets fmt, with fmt's text TOLD by the authors' own Lean function (tested against real Go, not proved from fmt's source: count such statements apart). THE CARD IS WHAT COUNTS. Prove the row's statement (the work); the ties are given (YtjjdeakghpmpfaaGreatDoorTie.lean); close each card by the builder's one call (the guide's Derived/Test/ToyasCard.lean, 'card_holds'). Laid BY PROGRAM, IN A SANDBOX (cutbox-door.mjs). By AI agents, Wed Nov 11 2026. No macro, syntax, notation, axiom, sorry.
-/
import Derived.Test.YtjjdeakghpmpfaaGreatDoorRows
import GoSem.ClaimSeven
namespace Go.Proofs.YtjjdeakghpmpfaaGreatDoor
namespace Rows

/-- THE TIED CARD OF 'laws.FnExactDecodePicture'. -/
def fnExactDecodePictureCard : Claim7 := { stood := { row := fnExactDecodePictureRow, standIns := [], harness := (true, "171a428d044eb31efb02e01a043605772ee828a4c157aa9a1019b64cd103e78d"), looks := true }, kinds := [], alts := [], goes := true, laidByText := true, laidKinds := [.sentinel, .sentinel, .data], laidTests := true, laidLooks := .later }
def FnExactDecodePictureCardSaid : Prop := Claim7.holds Tryz.pinned (.plain (OpenSpec.ofChange fnExactDecodePictureSpec)) fnExactDecodePictureCard

/-- THE SECOND FORM's CARD OF 'laws.FnExactDecodePicture'. -/
def fnExactDecodePictureUptoCard : Claim7 := { stood := { row := fnExactDecodePictureUptoRow, standIns := [], harness := (true, "171a428d044eb31efb02e01a043605772ee828a4c157aa9a1019b64cd103e78d"), looks := true }, kinds := [], alts := [], goes := true, laidByText := true, laidKinds := [.sentinel, .sentinel, .data], laidTests := true, laidLooks := .later }
def FnExactDecodePictureUptoCardSaid : Prop := Claim7.holds Tryz.pinned (.plain (OpenSpec.upto fnExactDecodePictureSpec)) fnExactDecodePictureUptoCard
end Rows
end Go.Proofs.YtjjdeakghpmpfaaGreatDoor
