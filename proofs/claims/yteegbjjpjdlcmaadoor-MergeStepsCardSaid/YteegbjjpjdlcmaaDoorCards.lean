/-
  DERIVED. GIVEN WITH THE SEED: THE CARDS: each row of YteegbjjpjdlcmaaDoorRows.lean that lists a variable, with what it lists TIED to the program's text (the seventh form; the later family's looks); each row that meets fmt, with fmt's text TOLD by the authors' own Lean function (tested against real Go, not proved from fmt's source: count such statements apart). THE CARD IS WHAT COUNTS. Prove the row's statement (the work); the ties are given (YteegbjjpjdlcmaaDoorTie.lean); close each card by the builder's one call (the guide's Derived/Test/ToyasCard.lean, 'card_holds'). Laid BY PROGRAM, IN A SANDBOX (cutbox-door.mjs). By AI agents, Wed Nov 11 2026. No macro, syntax, notation, axiom, sorry.
-/
import Derived.Test.YteegbjjpjdlcmaaDoorRows
import GoSem.ClaimSeven
namespace Go.Proofs.YteegbjjpjdlcmaaDoor
namespace Rows

/-- THE TIED CARD OF 'rubricklaw13.MergeOne'. -/
def mergeOneCard : Claim7 := { stood := { row := mergeOneRow, standIns := [], harness := (true, "1d706e4088b6b76825b0449bb94b01b963c60bdbd1a980d2e3fc4071bcfdaf77"), looks := false }, kinds := [], alts := [], laidByText := true, laidKinds := [.data, .data], laidTests := true, laidLooks := .later }
def MergeOneCardSaid : Prop := Claim7.holds Tryd.pinned (.plain (OpenSpec.ofChange mergeOneSpec)) mergeOneCard

/-- THE TIED CARD OF 'rubricklaw17.EvalRuns'. -/
def evalRunsCard : Claim7 := { stood := { row := evalRunsRow, standIns := [], harness := (true, "1d706e4088b6b76825b0449bb94b01b963c60bdbd1a980d2e3fc4071bcfdaf77"), looks := false }, kinds := [], alts := [], laidByText := true, laidKinds := [.data, .data], laidTests := true, laidLooks := .later }
def EvalRunsCardSaid : Prop := Claim7.holds Tryd.pinned (.plain (OpenSpec.ofChange evalRunsSpec)) evalRunsCard

/-- THE TIED CARD OF 'rubricklaw17.EvalParts'. -/
def evalPartsCard : Claim7 := { stood := { row := evalPartsRow, standIns := [], harness := (true, "1d706e4088b6b76825b0449bb94b01b963c60bdbd1a980d2e3fc4071bcfdaf77"), looks := false }, kinds := [], alts := [], laidByText := true, laidKinds := [.data, .data], laidTests := true, laidLooks := .later }
def EvalPartsCardSaid : Prop := Claim7.holds Tryd.pinned (.plain (OpenSpec.ofChange evalPartsSpec)) evalPartsCard

/-- THE TIED CARD OF 'rubricklaw17.EvalBounds'. -/
def evalBoundsCard : Claim7 := { stood := { row := evalBoundsRow, standIns := [], harness := (true, "1d706e4088b6b76825b0449bb94b01b963c60bdbd1a980d2e3fc4071bcfdaf77"), looks := false }, kinds := [], alts := [], laidByText := true, laidKinds := [.data, .data], laidTests := true, laidLooks := .later }
def EvalBoundsCardSaid : Prop := Claim7.holds Tryd.pinned (.plain (OpenSpec.ofChange evalBoundsSpec)) evalBoundsCard

/-- THE TIED CARD OF 'rubricklaw17.EvalSwap'. -/
def evalSwapCard : Claim7 := { stood := { row := evalSwapRow, standIns := [], harness := (true, "1d706e4088b6b76825b0449bb94b01b963c60bdbd1a980d2e3fc4071bcfdaf77"), looks := false }, kinds := [], alts := [], laidByText := true, laidKinds := [.data, .data], laidTests := true, laidLooks := .later }
def EvalSwapCardSaid : Prop := Claim7.holds Tryd.pinned (.plain (OpenSpec.ofChange evalSwapSpec)) evalSwapCard

/-- THE TIED CARD OF 'rubricklaw13.MergeSteps'. -/
def mergeStepsCard : Claim7 := { stood := { row := mergeStepsRow, standIns := [], harness := (true, "1d706e4088b6b76825b0449bb94b01b963c60bdbd1a980d2e3fc4071bcfdaf77"), looks := false }, kinds := [], alts := [], laidByText := true, laidKinds := [.data, .data], laidTests := true, laidLooks := .later }
def MergeStepsCardSaid : Prop := Claim7.holds Tryd.pinned (.plain (OpenSpec.ofChange mergeStepsSpec)) mergeStepsCard

/-- THE SECOND FORM's CARD OF 'rubricklaw13.MergeOne'. -/
def mergeOneUptoCard : Claim7 := { stood := { row := mergeOneUptoRow, standIns := [], harness := (true, "1d706e4088b6b76825b0449bb94b01b963c60bdbd1a980d2e3fc4071bcfdaf77"), looks := false }, kinds := [], alts := [], laidByText := true, laidKinds := [.data, .data], laidTests := true, laidLooks := .later }
def MergeOneUptoCardSaid : Prop := Claim7.holds Tryd.pinned (.plain (OpenSpec.upto mergeOneSpec)) mergeOneUptoCard

/-- THE SECOND FORM's CARD OF 'rubricklaw17.EvalRuns'. -/
def evalRunsUptoCard : Claim7 := { stood := { row := evalRunsUptoRow, standIns := [], harness := (true, "1d706e4088b6b76825b0449bb94b01b963c60bdbd1a980d2e3fc4071bcfdaf77"), looks := false }, kinds := [], alts := [], laidByText := true, laidKinds := [.data, .data], laidTests := true, laidLooks := .later }
def EvalRunsUptoCardSaid : Prop := Claim7.holds Tryd.pinned (.plain (OpenSpec.upto evalRunsSpec)) evalRunsUptoCard

/-- THE SECOND FORM's CARD OF 'rubricklaw17.EvalParts'. -/
def evalPartsUptoCard : Claim7 := { stood := { row := evalPartsUptoRow, standIns := [], harness := (true, "1d706e4088b6b76825b0449bb94b01b963c60bdbd1a980d2e3fc4071bcfdaf77"), looks := false }, kinds := [], alts := [], laidByText := true, laidKinds := [.data, .data], laidTests := true, laidLooks := .later }
def EvalPartsUptoCardSaid : Prop := Claim7.holds Tryd.pinned (.plain (OpenSpec.upto evalPartsSpec)) evalPartsUptoCard

/-- THE SECOND FORM's CARD OF 'rubricklaw17.EvalBounds'. -/
def evalBoundsUptoCard : Claim7 := { stood := { row := evalBoundsUptoRow, standIns := [], harness := (true, "1d706e4088b6b76825b0449bb94b01b963c60bdbd1a980d2e3fc4071bcfdaf77"), looks := false }, kinds := [], alts := [], laidByText := true, laidKinds := [.data, .data], laidTests := true, laidLooks := .later }
def EvalBoundsUptoCardSaid : Prop := Claim7.holds Tryd.pinned (.plain (OpenSpec.upto evalBoundsSpec)) evalBoundsUptoCard

/-- THE SECOND FORM's CARD OF 'rubricklaw17.EvalSwap'. -/
def evalSwapUptoCard : Claim7 := { stood := { row := evalSwapUptoRow, standIns := [], harness := (true, "1d706e4088b6b76825b0449bb94b01b963c60bdbd1a980d2e3fc4071bcfdaf77"), looks := false }, kinds := [], alts := [], laidByText := true, laidKinds := [.data, .data], laidTests := true, laidLooks := .later }
def EvalSwapUptoCardSaid : Prop := Claim7.holds Tryd.pinned (.plain (OpenSpec.upto evalSwapSpec)) evalSwapUptoCard

/-- THE SECOND FORM's CARD OF 'rubricklaw13.MergeSteps'. -/
def mergeStepsUptoCard : Claim7 := { stood := { row := mergeStepsUptoRow, standIns := [], harness := (true, "1d706e4088b6b76825b0449bb94b01b963c60bdbd1a980d2e3fc4071bcfdaf77"), looks := false }, kinds := [], alts := [], laidByText := true, laidKinds := [.data, .data], laidTests := true, laidLooks := .later }
def MergeStepsUptoCardSaid : Prop := Claim7.holds Tryd.pinned (.plain (OpenSpec.upto mergeStepsSpec)) mergeStepsUptoCard
end Rows
end Go.Proofs.YteegbjjpjdlcmaaDoor
