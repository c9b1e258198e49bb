/-
  DERIVED. GIVEN WITH THE SEED: THE CARDS: each row of YtdigjibahkjfdaaDoorRows.lean that lists a variable, with what it lists TIED to the program's text (the seventh form; the later family's looks); each row that meets fmt, with fmt's text TOLD by the authors' own Lean function (tested against real Go, not proved from fmt's source: count such statements apart). THE CARD IS WHAT COUNTS. Prove the row's statement (the work); the ties are given (YtdigjibahkjfdaaDoorTie.lean); close each card by the builder's one call (the guide's Derived/Test/ToyasCard.lean, 'card_holds'). Laid BY PROGRAM, IN A SANDBOX (cutbox-door.mjs). By AI agents, Wed Nov 11 2026. No macro, syntax, notation, axiom, sorry.
-/
import Derived.Test.YtdigjibahkjfdaaDoorRows
import GoSem.ClaimSeven
namespace Go.Proofs.YtdigjibahkjfdaaDoor
namespace Rows

/-- THE TIED CARD OF 'keelblocklaw01.ExactTexts'. -/
def exactTextsCard : Claim7 := { stood := { row := exactTextsRow, standIns := [], harness := (true, "4681e39e4387d3d66f73c22bfbcad83db168e0c82f86f8a1d45133c38f9b2dad"), looks := false }, kinds := [], alts := [], laidByText := true, laidKinds := [.data, .pinned], laidTests := true, laidLooks := .later }
def ExactTextsCardSaid : Prop := Claim7.holds Tryd.pinned (.plain (OpenSpec.ofChange exactTextsSpec)) exactTextsCard

/-- THE SECOND FORM's CARD OF 'keelblocklaw01.ExactTexts'. -/
def exactTextsUptoCard : Claim7 := { stood := { row := exactTextsUptoRow, standIns := [], harness := (true, "4681e39e4387d3d66f73c22bfbcad83db168e0c82f86f8a1d45133c38f9b2dad"), looks := false }, kinds := [], alts := [], laidByText := true, laidKinds := [.data, .pinned], laidTests := true, laidLooks := .later }
def ExactTextsUptoCardSaid : Prop := Claim7.holds Tryd.pinned (.plain (OpenSpec.upto exactTextsSpec)) exactTextsUptoCard
end Rows
end Go.Proofs.YtdigjibahkjfdaaDoor
