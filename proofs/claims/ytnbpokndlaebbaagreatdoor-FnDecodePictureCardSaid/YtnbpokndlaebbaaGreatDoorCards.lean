/-
  DERIVED. GIVEN WITH THE SEED: THE CARDS: each row of YtnbpokndlaebbaaGreatDoorRows.lean that lists a variable, with what it lists TIED to the program's text (the seventh form; the later family's looks); each row that meets fmt, with fmt's text TOLD by the authors' own Lean function (tested against real Go, not proved from fmt's source: count such statements apart). THE CARD IS WHAT COUNTS. Prove the row's statement (the work); the ties are given (YtnbpokndlaebbaaGreatDoorTie.lean); close each card by the builder's one call (the guide's Derived/Test/ToyasCard.lean, 'card_holds'). Laid BY PROGRAM, IN A SANDBOX (cutbox-door.mjs). By AI agents, Wed Nov 11 2026. No macro, syntax, notation, axiom, sorry.
-/
import Derived.Test.YtnbpokndlaebbaaGreatDoorRows
import GoSem.ClaimSeven
namespace Go.Proofs.YtnbpokndlaebbaaGreatDoor
namespace Rows

/-- THE TIED CARD OF 'laws.FnDecodePicture'. -/
def fnDecodePictureCard : Claim7 := { stood := { row := fnDecodePictureRow, standIns := [], harness := (true, "066fc8af62863c79b231ee37d3b07c353f4a7d5d37c857f8b24acef3432a14e7"), looks := true }, kinds := [], alts := [], goes := true, laidByText := true, laidKinds := [.sentinel, .sentinel, .data], laidTests := true, laidLooks := .later }
def FnDecodePictureCardSaid : Prop := Claim7.holds Tryz.pinned (.plain (OpenSpec.ofChange fnDecodePictureSpec)) fnDecodePictureCard

/-- THE SECOND FORM's CARD OF 'laws.FnDecodePicture'. -/
def fnDecodePictureUptoCard : Claim7 := { stood := { row := fnDecodePictureUptoRow, standIns := [], harness := (true, "066fc8af62863c79b231ee37d3b07c353f4a7d5d37c857f8b24acef3432a14e7"), looks := true }, kinds := [], alts := [], goes := true, laidByText := true, laidKinds := [.sentinel, .sentinel, .data], laidTests := true, laidLooks := .later }
def FnDecodePictureUptoCardSaid : Prop := Claim7.holds Tryz.pinned (.plain (OpenSpec.upto fnDecodePictureSpec)) fnDecodePictureUptoCard
end Rows
end Go.Proofs.YtnbpokndlaebbaaGreatDoor
