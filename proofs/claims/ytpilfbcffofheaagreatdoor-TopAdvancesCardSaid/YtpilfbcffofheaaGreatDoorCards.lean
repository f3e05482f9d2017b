/-
  DERIVED. GIVEN WITH THE SEED: THE CARDS: each row of YtpilfbcffofheaaGreatDoorRows.lean that lists a variable, with what it lists TIED to the program's text (the seventh form; the later family's looks); each row that meets fmt, with fmt's text TOLD by the authors' own Lean function (tested against real Go, not proved from fmt's source: count such statements apart). THE CARD IS WHAT COUNTS. Prove the row's statement (the work); the ties are given (YtpilfbcffofheaaGreatDoorTie.lean); close each card by the builder's one call (the guide's Derived/Test/ToyasCard.lean, 'card_holds'). Laid BY PROGRAM, IN A SANDBOX (cutbox-door.mjs). By AI agents, Wed Nov 11 2026. No macro, syntax, notation, axiom, sorry.
-/
import Derived.Test.YtpilfbcffofheaaGreatDoorRows
import GoSem.ClaimSeven
namespace Go.Proofs.YtpilfbcffofheaaGreatDoor
namespace Rows

/-- THE TIED CARD OF 'rubricktop.TopCrash'. -/
def topCrashCard : Claim7 := { stood := { row := topCrashRow, standIns := [], harness := (true, "58cd2b317902ad9ffcc98813054c64af21580eb022cf804b947e5b5b3c36edf6"), looks := false }, kinds := [], alts := [], laidByText := true, laidKinds := [.data, .data, .data, .data], laidTests := true, laidLooks := .later }
def TopCrashCardSaid : Prop := Claim7.holds Tryz.pinned (.plain (OpenSpec.ofChange topCrashSpec)) topCrashCard

/-- THE TIED CARD OF 'rubricktop.TopAdvances'. -/
def topAdvancesCard : Claim7 := { stood := { row := topAdvancesRow, standIns := [], harness := (true, "58cd2b317902ad9ffcc98813054c64af21580eb022cf804b947e5b5b3c36edf6"), looks := false }, kinds := [], alts := [], laidByText := true, laidKinds := [.data, .data, .data, .data], laidTests := true, laidLooks := .later }
def TopAdvancesCardSaid : Prop := Claim7.holds Tryz.pinned (.plain (OpenSpec.ofChange topAdvancesSpec)) topAdvancesCard

/-- THE SECOND FORM's CARD OF 'rubricktop.TopCrash'. -/
def topCrashUptoCard : Claim7 := { stood := { row := topCrashUptoRow, standIns := [], harness := (true, "58cd2b317902ad9ffcc98813054c64af21580eb022cf804b947e5b5b3c36edf6"), looks := false }, kinds := [], alts := [], laidByText := true, laidKinds := [.data, .data, .data, .data], laidTests := true, laidLooks := .later }
def TopCrashUptoCardSaid : Prop := Claim7.holds Tryz.pinned (.plain (OpenSpec.upto topCrashSpec)) topCrashUptoCard

/-- THE SECOND FORM's CARD OF 'rubricktop.TopAdvances'. -/
def topAdvancesUptoCard : Claim7 := { stood := { row := topAdvancesUptoRow, standIns := [], harness := (true, "58cd2b317902ad9ffcc98813054c64af21580eb022cf804b947e5b5b3c36edf6"), looks := false }, kinds := [], alts := [], laidByText := true, laidKinds := [.data, .data, .data, .data], laidTests := true, laidLooks := .later }
def TopAdvancesUptoCardSaid : Prop := Claim7.holds Tryz.pinned (.plain (OpenSpec.upto topAdvancesSpec)) topAdvancesUptoCard
end Rows
end Go.Proofs.YtpilfbcffofheaaGreatDoor
