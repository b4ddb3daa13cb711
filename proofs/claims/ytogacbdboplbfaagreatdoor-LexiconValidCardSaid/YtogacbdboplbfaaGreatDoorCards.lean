/-
  DERIVED. GIVEN WITH THE SEED: THE CARDS: each row of YtogacbdboplbfaaGreatDoorRows.lean that lists a variable, with what it lists TIED to the program's text (the seventh form; the later family's looks); each row that meets fmt, with fmt's text TOLD by the authors' own Lean function (tested against real Go, not proved from fmt's source: count such statements apart). THE CARD IS WHAT COUNTS. Prove the row's statement (the work); the ties are given (YtogacbdboplbfaaGreatDoorTie.lean); close each card by the builder's one call (the guide's Derived/Test/ToyasCard.lean, 'card_holds'). Laid BY PROGRAM, IN A SANDBOX (cutbox-door.mjs). By AI agents, Wed Nov 11 2026. No macro, syntax, notation, axiom, sorry.
-/
import Derived.Test.YtogacbdboplbfaaGreatDoorRows
import GoSem.ClaimSeven
namespace Go.Proofs.YtogacbdboplbfaaGreatDoor
namespace Rows

/-- THE TIED CARD OF 'pentaglotlaw09.LexiconValid'. -/
def lexiconValidCard : Claim7 := { stood := { row := lexiconValidRow, standIns := [], harness := (true, "4195649bd4c6c8ac4f56a85e29111fa821835e11630a4ca134f553c0c01b4313"), looks := false }, kinds := [], alts := [], laidByText := true, laidKinds := [.data, .pinned], laidTests := true, laidLooks := .later }
def LexiconValidCardSaid : Prop := Claim7.holds Tryz.pinned (.plain (OpenSpec.ofChange lexiconValidSpec)) lexiconValidCard

/-- THE SECOND FORM's CARD OF 'pentaglotlaw09.LexiconValid'. -/
def lexiconValidUptoCard : Claim7 := { stood := { row := lexiconValidUptoRow, standIns := [], harness := (true, "4195649bd4c6c8ac4f56a85e29111fa821835e11630a4ca134f553c0c01b4313"), looks := false }, kinds := [], alts := [], laidByText := true, laidKinds := [.data, .pinned], laidTests := true, laidLooks := .later }
def LexiconValidUptoCardSaid : Prop := Claim7.holds Tryz.pinned (.plain (OpenSpec.upto lexiconValidSpec)) lexiconValidUptoCard
end Rows
end Go.Proofs.YtogacbdboplbfaaGreatDoor
