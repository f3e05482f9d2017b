/-
  DERIVED. GIVEN WITH THE SEED: THE CARDS: each row of YteegbjjpjdlcmaaGreatDoorRows.lean that lists a variable, with what it lists TIED to the program's text (the seventh form; the later family's looks); each row that meets fmt, with fmt's text TOLD by the authors' own Lean function (tested against real Go, not proved from fmt's source: count such statements apart). THE CARD IS WHAT COUNTS. Prove the row's statement (the work); the ties are given (YteegbjjpjdlcmaaGreatDoorTie.lean); close each card by the builder's one call (the guide's Derived/Test/ToyasCard.lean, 'card_holds'). Laid BY PROGRAM, IN A SANDBOX (cutbox-door.mjs). By AI agents, Wed Nov 11 2026. No macro, syntax, notation, axiom, sorry.
-/
import Derived.Test.YteegbjjpjdlcmaaGreatDoorRows
import GoSem.ClaimSeven
namespace Go.Proofs.YteegbjjpjdlcmaaGreatDoor
namespace Rows

/-- THE TIED CARD OF 'rubricklaw13.MergeBuilds'. -/
def mergeBuildsCard : Claim7 := { stood := { row := mergeBuildsRow, standIns := [], harness := (true, "5bc7962cd22663e75988eabf9ad943425726d64847d05d8a80378a3d9a7ce29e"), looks := false }, kinds := [], alts := [], laidByText := true, laidKinds := [.data, .data], laidTests := true, laidLooks := .later }
def MergeBuildsCardSaid : Prop := Claim7.holds Tryz.pinned (.plain (OpenSpec.ofChange mergeBuildsSpec)) mergeBuildsCard

/-- THE SECOND FORM's CARD OF 'rubricklaw13.MergeBuilds'. -/
def mergeBuildsUptoCard : Claim7 := { stood := { row := mergeBuildsUptoRow, standIns := [], harness := (true, "5bc7962cd22663e75988eabf9ad943425726d64847d05d8a80378a3d9a7ce29e"), looks := false }, kinds := [], alts := [], laidByText := true, laidKinds := [.data, .data], laidTests := true, laidLooks := .later }
def MergeBuildsUptoCardSaid : Prop := Claim7.holds Tryz.pinned (.plain (OpenSpec.upto mergeBuildsSpec)) mergeBuildsUptoCard
end Rows
end Go.Proofs.YteegbjjpjdlcmaaGreatDoor
