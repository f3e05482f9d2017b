/-
  DERIVED. GIVEN WITH THE SEED: THE CARDS: each row of YtjbmihgfneamlaaDoorRows.lean that lists a variable, with what it lists TIED to the program's text (the seventh form; the later family's looks); each row that meets fmt, with fmt's text TOLD by the authors' own Lean function (tested against real Go, not proved from fmt's source: count such statements apart). THE CARD IS WHAT COUNTS. Prove the row's statement (the work); the ties are given (YtjbmihgfneamlaaDoorTie.lean); close each card by the builder's one call (the guide's Derived/Test/ToyasCard.lean, 'card_holds'). Laid BY PROGRAM, IN A SANDBOX (cutbox-door.mjs). By AI agents, Wed Nov 11 2026. No macro, syntax, notation, axiom, sorry.
-/
import Derived.Test.YtjbmihgfneamlaaDoorRows
import GoSem.ClaimSeven
namespace Go.Proofs.YtjbmihgfneamlaaDoor
namespace Rows

/-- THE TIED CARD OF 'rubricklaw16.QueryBack'. -/
def queryBackCard : Claim7 := { stood := { row := queryBackRow, standIns := [], harness := (true, "a91ff512b687b1d65b578ea1317bd5c879e6be9054c2d665631aa6ae84ca64bf"), looks := false }, kinds := [], alts := [], laidByText := true, laidKinds := [.data, .data], laidTests := true, laidLooks := .later }
def QueryBackCardSaid : Prop := Claim7.holds Tryd.pinned (.plain (OpenSpec.ofChange queryBackSpec)) queryBackCard

/-- THE TIED CARD OF 'rubricklaw16.QueryAround'. -/
def queryAroundCard : Claim7 := { stood := { row := queryAroundRow, standIns := [], harness := (true, "a91ff512b687b1d65b578ea1317bd5c879e6be9054c2d665631aa6ae84ca64bf"), looks := false }, kinds := [], alts := [], laidByText := true, laidKinds := [.data, .data], laidTests := true, laidLooks := .later }
def QueryAroundCardSaid : Prop := Claim7.holds Tryd.pinned (.plain (OpenSpec.ofChange queryAroundSpec)) queryAroundCard

/-- THE TIED CARD OF 'rubricklaw16.QueryOne'. -/
def queryOneCard : Claim7 := { stood := { row := queryOneRow, standIns := [], harness := (true, "a91ff512b687b1d65b578ea1317bd5c879e6be9054c2d665631aa6ae84ca64bf"), looks := false }, kinds := [], alts := [], laidByText := true, laidKinds := [.data, .data], laidTests := true, laidLooks := .later }
def QueryOneCardSaid : Prop := Claim7.holds Tryd.pinned (.plain (OpenSpec.ofChange queryOneSpec)) queryOneCard

/-- THE TIED CARD OF 'rubricklaw05.TokenCuts'. -/
def tokenCutsCard : Claim7 := { stood := { row := tokenCutsRow, standIns := [], harness := (true, "a91ff512b687b1d65b578ea1317bd5c879e6be9054c2d665631aa6ae84ca64bf"), looks := false }, kinds := [], alts := [], laidByText := true, laidKinds := [.data, .data], laidTests := true, laidLooks := .later }
def TokenCutsCardSaid : Prop := Claim7.holds Tryd.pinned (.plain (OpenSpec.ofChange tokenCutsSpec)) tokenCutsCard

/-- THE TIED CARD OF 'rubricklaw05.TokenPlaces'. -/
def tokenPlacesCard : Claim7 := { stood := { row := tokenPlacesRow, standIns := [], harness := (true, "a91ff512b687b1d65b578ea1317bd5c879e6be9054c2d665631aa6ae84ca64bf"), looks := false }, kinds := [], alts := [], laidByText := true, laidKinds := [.data, .data], laidTests := true, laidLooks := .later }
def TokenPlacesCardSaid : Prop := Claim7.holds Tryd.pinned (.plain (OpenSpec.ofChange tokenPlacesSpec)) tokenPlacesCard

/-- THE TIED CARD OF 'rubricklaw05.TokenRights'. -/
def tokenRightsCard : Claim7 := { stood := { row := tokenRightsRow, standIns := [], harness := (true, "a91ff512b687b1d65b578ea1317bd5c879e6be9054c2d665631aa6ae84ca64bf"), looks := false }, kinds := [], alts := [], laidByText := true, laidKinds := [.data, .data], laidTests := true, laidLooks := .later }
def TokenRightsCardSaid : Prop := Claim7.holds Tryd.pinned (.plain (OpenSpec.ofChange tokenRightsSpec)) tokenRightsCard

/-- THE TIED CARD OF 'rubricklaw05.TokenRows'. -/
def tokenRowsCard : Claim7 := { stood := { row := tokenRowsRow, standIns := [], harness := (true, "a91ff512b687b1d65b578ea1317bd5c879e6be9054c2d665631aa6ae84ca64bf"), looks := false }, kinds := [], alts := [], laidByText := true, laidKinds := [.data, .data], laidTests := true, laidLooks := .later }
def TokenRowsCardSaid : Prop := Claim7.holds Tryd.pinned (.plain (OpenSpec.ofChange tokenRowsSpec)) tokenRowsCard

/-- THE TIED CARD OF 'rubricklaw05.TokenSets'. -/
def tokenSetsCard : Claim7 := { stood := { row := tokenSetsRow, standIns := [], harness := (true, "a91ff512b687b1d65b578ea1317bd5c879e6be9054c2d665631aa6ae84ca64bf"), looks := false }, kinds := [], alts := [], laidByText := true, laidKinds := [.data, .data], laidTests := true, laidLooks := .later }
def TokenSetsCardSaid : Prop := Claim7.holds Tryd.pinned (.plain (OpenSpec.ofChange tokenSetsSpec)) tokenSetsCard

/-- THE TIED CARD OF 'rubricklaw05.TokenCase'. -/
def tokenCaseCard : Claim7 := { stood := { row := tokenCaseRow, standIns := [], harness := (true, "a91ff512b687b1d65b578ea1317bd5c879e6be9054c2d665631aa6ae84ca64bf"), looks := false }, kinds := [], alts := [], laidByText := true, laidKinds := [.data, .data], laidTests := true, laidLooks := .later }
def TokenCaseCardSaid : Prop := Claim7.holds Tryd.pinned (.plain (OpenSpec.ofChange tokenCaseSpec)) tokenCaseCard

/-- THE TIED CARD OF 'rubricklaw16.QueryRight'. -/
def queryRightCard : Claim7 := { stood := { row := queryRightRow, standIns := [], harness := (true, "a91ff512b687b1d65b578ea1317bd5c879e6be9054c2d665631aa6ae84ca64bf"), looks := false }, kinds := [], alts := [], laidByText := true, laidKinds := [.data, .data], laidTests := true, laidLooks := .later }
def QueryRightCardSaid : Prop := Claim7.holds Tryd.pinned (.plain (OpenSpec.ofChange queryRightSpec)) queryRightCard

/-- THE SECOND FORM's CARD OF 'rubricklaw16.QueryBack'. -/
def queryBackUptoCard : Claim7 := { stood := { row := queryBackUptoRow, standIns := [], harness := (true, "a91ff512b687b1d65b578ea1317bd5c879e6be9054c2d665631aa6ae84ca64bf"), looks := false }, kinds := [], alts := [], laidByText := true, laidKinds := [.data, .data], laidTests := true, laidLooks := .later }
def QueryBackUptoCardSaid : Prop := Claim7.holds Tryd.pinned (.plain (OpenSpec.upto queryBackSpec)) queryBackUptoCard

/-- THE SECOND FORM's CARD OF 'rubricklaw16.QueryAround'. -/
def queryAroundUptoCard : Claim7 := { stood := { row := queryAroundUptoRow, standIns := [], harness := (true, "a91ff512b687b1d65b578ea1317bd5c879e6be9054c2d665631aa6ae84ca64bf"), looks := false }, kinds := [], alts := [], laidByText := true, laidKinds := [.data, .data], laidTests := true, laidLooks := .later }
def QueryAroundUptoCardSaid : Prop := Claim7.holds Tryd.pinned (.plain (OpenSpec.upto queryAroundSpec)) queryAroundUptoCard

/-- THE SECOND FORM's CARD OF 'rubricklaw16.QueryOne'. -/
def queryOneUptoCard : Claim7 := { stood := { row := queryOneUptoRow, standIns := [], harness := (true, "a91ff512b687b1d65b578ea1317bd5c879e6be9054c2d665631aa6ae84ca64bf"), looks := false }, kinds := [], alts := [], laidByText := true, laidKinds := [.data, .data], laidTests := true, laidLooks := .later }
def QueryOneUptoCardSaid : Prop := Claim7.holds Tryd.pinned (.plain (OpenSpec.upto queryOneSpec)) queryOneUptoCard

/-- THE SECOND FORM's CARD OF 'rubricklaw05.TokenCuts'. -/
def tokenCutsUptoCard : Claim7 := { stood := { row := tokenCutsUptoRow, standIns := [], harness := (true, "a91ff512b687b1d65b578ea1317bd5c879e6be9054c2d665631aa6ae84ca64bf"), looks := false }, kinds := [], alts := [], laidByText := true, laidKinds := [.data, .data], laidTests := true, laidLooks := .later }
def TokenCutsUptoCardSaid : Prop := Claim7.holds Tryd.pinned (.plain (OpenSpec.upto tokenCutsSpec)) tokenCutsUptoCard

/-- THE SECOND FORM's CARD OF 'rubricklaw05.TokenPlaces'. -/
def tokenPlacesUptoCard : Claim7 := { stood := { row := tokenPlacesUptoRow, standIns := [], harness := (true, "a91ff512b687b1d65b578ea1317bd5c879e6be9054c2d665631aa6ae84ca64bf"), looks := false }, kinds := [], alts := [], laidByText := true, laidKinds := [.data, .data], laidTests := true, laidLooks := .later }
def TokenPlacesUptoCardSaid : Prop := Claim7.holds Tryd.pinned (.plain (OpenSpec.upto tokenPlacesSpec)) tokenPlacesUptoCard

/-- THE SECOND FORM's CARD OF 'rubricklaw05.TokenRights'. -/
def tokenRightsUptoCard : Claim7 := { stood := { row := tokenRightsUptoRow, standIns := [], harness := (true, "a91ff512b687b1d65b578ea1317bd5c879e6be9054c2d665631aa6ae84ca64bf"), looks := false }, kinds := [], alts := [], laidByText := true, laidKinds := [.data, .data], laidTests := true, laidLooks := .later }
def TokenRightsUptoCardSaid : Prop := Claim7.holds Tryd.pinned (.plain (OpenSpec.upto tokenRightsSpec)) tokenRightsUptoCard

/-- THE SECOND FORM's CARD OF 'rubricklaw05.TokenRows'. -/
def tokenRowsUptoCard : Claim7 := { stood := { row := tokenRowsUptoRow, standIns := [], harness := (true, "a91ff512b687b1d65b578ea1317bd5c879e6be9054c2d665631aa6ae84ca64bf"), looks := false }, kinds := [], alts := [], laidByText := true, laidKinds := [.data, .data], laidTests := true, laidLooks := .later }
def TokenRowsUptoCardSaid : Prop := Claim7.holds Tryd.pinned (.plain (OpenSpec.upto tokenRowsSpec)) tokenRowsUptoCard

/-- THE SECOND FORM's CARD OF 'rubricklaw05.TokenSets'. -/
def tokenSetsUptoCard : Claim7 := { stood := { row := tokenSetsUptoRow, standIns := [], harness := (true, "a91ff512b687b1d65b578ea1317bd5c879e6be9054c2d665631aa6ae84ca64bf"), looks := false }, kinds := [], alts := [], laidByText := true, laidKinds := [.data, .data], laidTests := true, laidLooks := .later }
def TokenSetsUptoCardSaid : Prop := Claim7.holds Tryd.pinned (.plain (OpenSpec.upto tokenSetsSpec)) tokenSetsUptoCard

/-- THE SECOND FORM's CARD OF 'rubricklaw05.TokenCase'. -/
def tokenCaseUptoCard : Claim7 := { stood := { row := tokenCaseUptoRow, standIns := [], harness := (true, "a91ff512b687b1d65b578ea1317bd5c879e6be9054c2d665631aa6ae84ca64bf"), looks := false }, kinds := [], alts := [], laidByText := true, laidKinds := [.data, .data], laidTests := true, laidLooks := .later }
def TokenCaseUptoCardSaid : Prop := Claim7.holds Tryd.pinned (.plain (OpenSpec.upto tokenCaseSpec)) tokenCaseUptoCard

/-- THE SECOND FORM's CARD OF 'rubricklaw16.QueryRight'. -/
def queryRightUptoCard : Claim7 := { stood := { row := queryRightUptoRow, standIns := [], harness := (true, "a91ff512b687b1d65b578ea1317bd5c879e6be9054c2d665631aa6ae84ca64bf"), looks := false }, kinds := [], alts := [], laidByText := true, laidKinds := [.data, .data], laidTests := true, laidLooks := .later }
def QueryRightUptoCardSaid : Prop := Claim7.holds Tryd.pinned (.plain (OpenSpec.upto queryRightSpec)) queryRightUptoCard
end Rows
end Go.Proofs.YtjbmihgfneamlaaDoor
