/-
  NARROWER THAN 'FOR EVERY INPUT', by the rows' own cells (each row's printed sentence says how): QueryBack: laid · QueryAround: laid · QueryOne: laid · TokenCuts: laid · TokenPlaces: laid · TokenRights: laid · TokenRows: laid · TokenSets: laid · TokenCase: laid · QueryRight: laid.
  DERIVED. THE GIVEN ROWS OF THIS SEAT. 10 by the template 'for every input the law returns true; each argument reads behind the call as it read before'; 0 by the template 'total and deterministic' (their statements: YtjbmihgfneamlaaDoorTotals.lean).
  GIVEN WITH THE SEED: the statements are not yours to turn. If you find one false, say at which input.
  Laid BY PROGRAM, IN A SANDBOX (cutbox-rows.mjs): the forced cells as the released guide's own fill.sh prints them over the translation 097e2dbe43d47af6… (all of the seat's roots in one cut). By AI agents, Wed Nov 11 2026. No macro, syntax, notation, axiom, sorry.
-/
import Derived.Test.YtjbmihgfneamlaaDoorChecked
import GoSem.Claim
import GoSem.ClaimJoined
import GoSem.ClaimMapViews
import Derived.JoinedTies
import Derived.KernelRfl
namespace Go.Proofs.YtjbmihgfneamlaaDoor
/- THE CELL 'sum', in the pinned program and in every row, IS THE sha256 OF THE DUMP (.gsa) THAT YtjbmihgfneamlaaDoorProg.lean LOADS. Nothing in Lean hashes anything: it is a label: what it is worth is what the hold of that sum in a sandbox is worth. -/
noncomputable def Tryd.pinned : Pinned := { name := "ytjbmihgfneamlaadoor", sum := "097e2dbe43d47af6c63c8588e392b1295a2a4964f7f454823520a953884a2712", checked := Tryd.checked }
namespace Rows
def none {H : Type} : Left H := { results := [], args := [] }

/- WHAT THE LISTED PACKAGE-LEVEL VARIABLES READ AS WHEN THE CALL BEGINS. Each datum BY PROGRAM (the guide's laid-datum.mjs) off the statement by which the dump's own 'gosem.cut.vars' lays the variable. In a bare row this is a premise. The card (YtjbmihgfneamlaaDoorCards.lean) ties it to the program's text. -/
def laid_rubrick_utf_letters {H : Type} : DataW H := .agg [.agg [.lit (.int .i64 65), .lit (.int .i64 90)], .agg [.lit (.int .i64 97), .lit (.int .i64 122)], .agg [.lit (.int .i64 192), .lit (.int .i64 214)], .agg [.lit (.int .i64 216), .lit (.int .i64 246)], .agg [.lit (.int .i64 248), .lit (.int .i64 255)], .agg [.lit (.int .i64 913), .lit (.int .i64 929)], .agg [.lit (.int .i64 931), .lit (.int .i64 937)], .agg [.lit (.int .i64 945), .lit (.int .i64 969)], .agg [.lit (.int .i64 1024), .lit (.int .i64 1119)]]
def laid_rubrick_utf_shifts {H : Type} : DataW H := .agg [.agg [.lit (.int .i64 65), .lit (.int .i64 90), .lit (.int .i64 32)], .agg [.lit (.int .i64 192), .lit (.int .i64 214), .lit (.int .i64 32)], .agg [.lit (.int .i64 216), .lit (.int .i64 222), .lit (.int .i64 32)], .agg [.lit (.int .i64 913), .lit (.int .i64 929), .lit (.int .i64 32)], .agg [.lit (.int .i64 931), .lit (.int .i64 937), .lit (.int .i64 32)], .agg [.lit (.int .i64 1024), .lit (.int .i64 1039), .lit (.int .i64 80)], .agg [.lit (.int .i64 1040), .lit (.int .i64 1071), .lit (.int .i64 32)]]

/-- 'rubricklaw16.QueryBack': WHATEVER THE INPUT: true; the input reads as it did. -/
def queryBackSpec : ChangeSpec := { name := "queryBack", fn := fun _ => fun
  | [d] => { results := [.lit (.bool true)], args := [d] }
  | _ => none }
def queryBackRow : OpenClaim := { program := "ytjbmihgfneamlaadoor", sum := "097e2dbe43d47af6c63c8588e392b1295a2a4964f7f454823520a953884a2712", func := "rubrick/rubricklaw16.QueryBack", spec := "queryBack", unfollowed := true, recurses := true, named := ["rubrick/utf.letters", "rubrick/utf.shifts"], apart := false, laid := [("rubrick/utf.letters", laid_rubrick_utf_letters), ("rubrick/utf.shifts", laid_rubrick_utf_shifts)] }
def QueryBackSaid : Prop := queryBackRow.holds Tryd.pinned (OpenSpec.ofChange queryBackSpec)

/-- ITS FALSE NEIGHBOUR: 'it returns false'. Refute it at one input. -/
def queryBackWrong : ChangeSpec := { name := "queryBack", fn := fun _ => fun
  | [d] => { results := [.lit (.bool false)], args := [d] }
  | _ => none }
def QueryBackWrongFalsely : Prop := queryBackRow.holds Tryd.pinned (OpenSpec.ofChange queryBackWrong)

/-- 'rubricklaw16.QueryAround': WHATEVER THE INPUT: true; the input reads as it did. -/
def queryAroundSpec : ChangeSpec := { name := "queryAround", fn := fun _ => fun
  | [d] => { results := [.lit (.bool true)], args := [d] }
  | _ => none }
def queryAroundRow : OpenClaim := { program := "ytjbmihgfneamlaadoor", sum := "097e2dbe43d47af6c63c8588e392b1295a2a4964f7f454823520a953884a2712", func := "rubrick/rubricklaw16.QueryAround", spec := "queryAround", unfollowed := true, recurses := true, named := ["rubrick/utf.letters", "rubrick/utf.shifts"], apart := false, laid := [("rubrick/utf.letters", laid_rubrick_utf_letters), ("rubrick/utf.shifts", laid_rubrick_utf_shifts)] }
def QueryAroundSaid : Prop := queryAroundRow.holds Tryd.pinned (OpenSpec.ofChange queryAroundSpec)

/-- ITS FALSE NEIGHBOUR: 'it returns false'. Refute it at one input. -/
def queryAroundWrong : ChangeSpec := { name := "queryAround", fn := fun _ => fun
  | [d] => { results := [.lit (.bool false)], args := [d] }
  | _ => none }
def QueryAroundWrongFalsely : Prop := queryAroundRow.holds Tryd.pinned (OpenSpec.ofChange queryAroundWrong)

/-- 'rubricklaw16.QueryOne': WHATEVER THE INPUT: true; the input reads as it did. -/
def queryOneSpec : ChangeSpec := { name := "queryOne", fn := fun _ => fun
  | [d1, d2, d3] => { results := [.lit (.bool true)], args := [d1, d2, d3] }
  | _ => none }
def queryOneRow : OpenClaim := { program := "ytjbmihgfneamlaadoor", sum := "097e2dbe43d47af6c63c8588e392b1295a2a4964f7f454823520a953884a2712", func := "rubrick/rubricklaw16.QueryOne", spec := "queryOne", unfollowed := true, recurses := true, named := ["rubrick/utf.letters", "rubrick/utf.shifts"], apart := false, laid := [("rubrick/utf.letters", laid_rubrick_utf_letters), ("rubrick/utf.shifts", laid_rubrick_utf_shifts)] }
def QueryOneSaid : Prop := queryOneRow.holds Tryd.pinned (OpenSpec.ofChange queryOneSpec)

/-- ITS FALSE NEIGHBOUR: 'it returns false'. Refute it at one input. -/
def queryOneWrong : ChangeSpec := { name := "queryOne", fn := fun _ => fun
  | [d1, d2, d3] => { results := [.lit (.bool false)], args := [d1, d2, d3] }
  | _ => none }
def QueryOneWrongFalsely : Prop := queryOneRow.holds Tryd.pinned (OpenSpec.ofChange queryOneWrong)

/-- 'rubricklaw05.TokenCuts': WHATEVER THE INPUT: true; the input reads as it did. -/
def tokenCutsSpec : ChangeSpec := { name := "tokenCuts", fn := fun _ => fun
  | [d] => { results := [.lit (.bool true)], args := [d] }
  | _ => none }
def tokenCutsRow : OpenClaim := { program := "ytjbmihgfneamlaadoor", sum := "097e2dbe43d47af6c63c8588e392b1295a2a4964f7f454823520a953884a2712", func := "rubrick/rubricklaw05.TokenCuts", spec := "tokenCuts", unfollowed := true, recurses := true, named := ["rubrick/utf.letters", "rubrick/utf.shifts"], apart := false, laid := [("rubrick/utf.letters", laid_rubrick_utf_letters), ("rubrick/utf.shifts", laid_rubrick_utf_shifts)] }
def TokenCutsSaid : Prop := tokenCutsRow.holds Tryd.pinned (OpenSpec.ofChange tokenCutsSpec)

/-- ITS FALSE NEIGHBOUR: 'it returns false'. Refute it at one input. -/
def tokenCutsWrong : ChangeSpec := { name := "tokenCuts", fn := fun _ => fun
  | [d] => { results := [.lit (.bool false)], args := [d] }
  | _ => none }
def TokenCutsWrongFalsely : Prop := tokenCutsRow.holds Tryd.pinned (OpenSpec.ofChange tokenCutsWrong)

/-- 'rubricklaw05.TokenPlaces': WHATEVER THE INPUT: true; the input reads as it did. -/
def tokenPlacesSpec : ChangeSpec := { name := "tokenPlaces", fn := fun _ => fun
  | [d1, d2] => { results := [.lit (.bool true)], args := [d1, d2] }
  | _ => none }
def tokenPlacesRow : OpenClaim := { program := "ytjbmihgfneamlaadoor", sum := "097e2dbe43d47af6c63c8588e392b1295a2a4964f7f454823520a953884a2712", func := "rubrick/rubricklaw05.TokenPlaces", spec := "tokenPlaces", unfollowed := true, recurses := true, named := ["rubrick/utf.letters", "rubrick/utf.shifts"], apart := false, laid := [("rubrick/utf.letters", laid_rubrick_utf_letters), ("rubrick/utf.shifts", laid_rubrick_utf_shifts)] }
def TokenPlacesSaid : Prop := tokenPlacesRow.holds Tryd.pinned (OpenSpec.ofChange tokenPlacesSpec)

/-- ITS FALSE NEIGHBOUR: 'it returns false'. Refute it at one input. -/
def tokenPlacesWrong : ChangeSpec := { name := "tokenPlaces", fn := fun _ => fun
  | [d1, d2] => { results := [.lit (.bool false)], args := [d1, d2] }
  | _ => none }
def TokenPlacesWrongFalsely : Prop := tokenPlacesRow.holds Tryd.pinned (OpenSpec.ofChange tokenPlacesWrong)

/-- 'rubricklaw05.TokenRights': WHATEVER THE INPUT: true; the input reads as it did. -/
def tokenRightsSpec : ChangeSpec := { name := "tokenRights", fn := fun _ => fun
  | [d1, d2] => { results := [.lit (.bool true)], args := [d1, d2] }
  | _ => none }
def tokenRightsRow : OpenClaim := { program := "ytjbmihgfneamlaadoor", sum := "097e2dbe43d47af6c63c8588e392b1295a2a4964f7f454823520a953884a2712", func := "rubrick/rubricklaw05.TokenRights", spec := "tokenRights", unfollowed := true, recurses := true, named := ["rubrick/utf.letters", "rubrick/utf.shifts"], apart := false, laid := [("rubrick/utf.letters", laid_rubrick_utf_letters), ("rubrick/utf.shifts", laid_rubrick_utf_shifts)] }
def TokenRightsSaid : Prop := tokenRightsRow.holds Tryd.pinned (OpenSpec.ofChange tokenRightsSpec)

/-- ITS FALSE NEIGHBOUR: 'it returns false'. Refute it at one input. -/
def tokenRightsWrong : ChangeSpec := { name := "tokenRights", fn := fun _ => fun
  | [d1, d2] => { results := [.lit (.bool false)], args := [d1, d2] }
  | _ => none }
def TokenRightsWrongFalsely : Prop := tokenRightsRow.holds Tryd.pinned (OpenSpec.ofChange tokenRightsWrong)

/-- 'rubricklaw05.TokenRows': WHATEVER THE INPUT: true; the input reads as it did. -/
def tokenRowsSpec : ChangeSpec := { name := "tokenRows", fn := fun _ => fun
  | [d1, d2, d3] => { results := [.lit (.bool true)], args := [d1, d2, d3] }
  | _ => none }
def tokenRowsRow : OpenClaim := { program := "ytjbmihgfneamlaadoor", sum := "097e2dbe43d47af6c63c8588e392b1295a2a4964f7f454823520a953884a2712", func := "rubrick/rubricklaw05.TokenRows", spec := "tokenRows", unfollowed := true, recurses := true, named := ["rubrick/utf.letters", "rubrick/utf.shifts"], apart := false, laid := [("rubrick/utf.letters", laid_rubrick_utf_letters), ("rubrick/utf.shifts", laid_rubrick_utf_shifts)] }
def TokenRowsSaid : Prop := tokenRowsRow.holds Tryd.pinned (OpenSpec.ofChange tokenRowsSpec)

/-- ITS FALSE NEIGHBOUR: 'it returns false'. Refute it at one input. -/
def tokenRowsWrong : ChangeSpec := { name := "tokenRows", fn := fun _ => fun
  | [d1, d2, d3] => { results := [.lit (.bool false)], args := [d1, d2, d3] }
  | _ => none }
def TokenRowsWrongFalsely : Prop := tokenRowsRow.holds Tryd.pinned (OpenSpec.ofChange tokenRowsWrong)

/-- 'rubricklaw05.TokenSets': WHATEVER THE INPUT: true; the input reads as it did. -/
def tokenSetsSpec : ChangeSpec := { name := "tokenSets", fn := fun _ => fun
  | [d] => { results := [.lit (.bool true)], args := [d] }
  | _ => none }
def tokenSetsRow : OpenClaim := { program := "ytjbmihgfneamlaadoor", sum := "097e2dbe43d47af6c63c8588e392b1295a2a4964f7f454823520a953884a2712", func := "rubrick/rubricklaw05.TokenSets", spec := "tokenSets", unfollowed := true, recurses := true, named := ["rubrick/utf.letters", "rubrick/utf.shifts"], apart := false, laid := [("rubrick/utf.letters", laid_rubrick_utf_letters), ("rubrick/utf.shifts", laid_rubrick_utf_shifts)] }
def TokenSetsSaid : Prop := tokenSetsRow.holds Tryd.pinned (OpenSpec.ofChange tokenSetsSpec)

/-- ITS FALSE NEIGHBOUR: 'it returns false'. Refute it at one input. -/
def tokenSetsWrong : ChangeSpec := { name := "tokenSets", fn := fun _ => fun
  | [d] => { results := [.lit (.bool false)], args := [d] }
  | _ => none }
def TokenSetsWrongFalsely : Prop := tokenSetsRow.holds Tryd.pinned (OpenSpec.ofChange tokenSetsWrong)

/-- 'rubricklaw05.TokenCase': WHATEVER THE INPUT: true; the input reads as it did. -/
def tokenCaseSpec : ChangeSpec := { name := "tokenCase", fn := fun _ => fun
  | [d1, d2] => { results := [.lit (.bool true)], args := [d1, d2] }
  | _ => none }
def tokenCaseRow : OpenClaim := { program := "ytjbmihgfneamlaadoor", sum := "097e2dbe43d47af6c63c8588e392b1295a2a4964f7f454823520a953884a2712", func := "rubrick/rubricklaw05.TokenCase", spec := "tokenCase", unfollowed := true, recurses := true, named := ["rubrick/utf.letters", "rubrick/utf.shifts"], apart := false, laid := [("rubrick/utf.letters", laid_rubrick_utf_letters), ("rubrick/utf.shifts", laid_rubrick_utf_shifts)] }
def TokenCaseSaid : Prop := tokenCaseRow.holds Tryd.pinned (OpenSpec.ofChange tokenCaseSpec)

/-- ITS FALSE NEIGHBOUR: 'it returns false'. Refute it at one input. -/
def tokenCaseWrong : ChangeSpec := { name := "tokenCase", fn := fun _ => fun
  | [d1, d2] => { results := [.lit (.bool false)], args := [d1, d2] }
  | _ => none }
def TokenCaseWrongFalsely : Prop := tokenCaseRow.holds Tryd.pinned (OpenSpec.ofChange tokenCaseWrong)

/-- 'rubricklaw16.QueryRight': WHATEVER THE INPUT: true; the input reads as it did. -/
def queryRightSpec : ChangeSpec := { name := "queryRight", fn := fun _ => fun
  | [d] => { results := [.lit (.bool true)], args := [d] }
  | _ => none }
def queryRightRow : OpenClaim := { program := "ytjbmihgfneamlaadoor", sum := "097e2dbe43d47af6c63c8588e392b1295a2a4964f7f454823520a953884a2712", func := "rubrick/rubricklaw16.QueryRight", spec := "queryRight", unfollowed := true, recurses := true, named := ["rubrick/utf.letters", "rubrick/utf.shifts"], apart := false, laid := [("rubrick/utf.letters", laid_rubrick_utf_letters), ("rubrick/utf.shifts", laid_rubrick_utf_shifts)] }
def QueryRightSaid : Prop := queryRightRow.holds Tryd.pinned (OpenSpec.ofChange queryRightSpec)

/-- ITS FALSE NEIGHBOUR: 'it returns false'. Refute it at one input. -/
def queryRightWrong : ChangeSpec := { name := "queryRight", fn := fun _ => fun
  | [d] => { results := [.lit (.bool false)], args := [d] }
  | _ => none }
def QueryRightWrongFalsely : Prop := queryRightRow.holds Tryd.pinned (OpenSpec.ofChange queryRightWrong)

/- THE SECOND FORM. 'bulk': how many values and letters a reading holds, each counted each time it is reached (what is shared counts as often as it is met; a slice's spare places count too). A statement '..UptoSaid' is the law's where the arguments, and the package variables that the reading takes, are together of bulk at most 1048576: NARROWER than '..Said'. Prove '..Said' where nothing that the law and all that it calls make is longer than what came in: it says more and counts as full. Else prove '..UptoSaid'. A law counts once. -/
mutual
def uptoBulk {H : Type} : DataW H → Nat
  | .lit (.string bytes) => bytes.length + 1
  | .lit _ => 1
  | .nil => 1
  | .ptr d => uptoBulk d + 1
  | .slice elems spare => uptoBulkAll elems + uptoBulkAll spare + 1
  | .agg parts => uptoBulkAll parts + 1
  | .iface _ d => uptoBulk d + 1
  | .map entries => uptoBulkEntries entries + 1
  | .held _ => 1
def uptoBulkAll {H : Type} : List (DataW H) → Nat
  | [] => 0
  | d :: r => uptoBulk d + uptoBulkAll r
def uptoBulkEntries {H : Type} : List (Lit × DataW H) → Nat
  | [] => 0
  | x :: r => uptoBulkEntry x + uptoBulkEntries r
def uptoBulkEntry {H : Type} : Lit × DataW H → Nat
  | (.string bytes, d) => bytes.length + uptoBulk d + 1
  | (_, d) => uptoBulk d + 1
 end
def uptoSmall : (H : Type) → List (DataW H) → Bool := fun _ ds => decide (uptoBulkAll ds ≤ 1048576)
def OpenSpec.upto (s : _root_.Go.ChangeSpec) : _root_.Go.OpenSpec := { _root_.Go.OpenSpec.ofChange s with cond := some uptoSmall }

/-- 'rubricklaw16.QueryBack', WHERE WHAT IT READS IS OF BULK AT MOST 1048576: true; the input reads as it did. -/
def queryBackUptoRow : OpenClaim := { program := "ytjbmihgfneamlaadoor", sum := "097e2dbe43d47af6c63c8588e392b1295a2a4964f7f454823520a953884a2712", func := "rubrick/rubricklaw16.QueryBack", spec := "queryBack", unfollowed := true, recurses := true, named := ["rubrick/utf.letters", "rubrick/utf.shifts"], apart := false, laid := [("rubrick/utf.letters", laid_rubrick_utf_letters), ("rubrick/utf.shifts", laid_rubrick_utf_shifts)], narrowed := true }
def QueryBackUptoSaid : Prop := queryBackUptoRow.holds Tryd.pinned (OpenSpec.upto queryBackSpec)

/-- 'rubricklaw16.QueryAround', WHERE WHAT IT READS IS OF BULK AT MOST 1048576: true; the input reads as it did. -/
def queryAroundUptoRow : OpenClaim := { program := "ytjbmihgfneamlaadoor", sum := "097e2dbe43d47af6c63c8588e392b1295a2a4964f7f454823520a953884a2712", func := "rubrick/rubricklaw16.QueryAround", spec := "queryAround", unfollowed := true, recurses := true, named := ["rubrick/utf.letters", "rubrick/utf.shifts"], apart := false, laid := [("rubrick/utf.letters", laid_rubrick_utf_letters), ("rubrick/utf.shifts", laid_rubrick_utf_shifts)], narrowed := true }
def QueryAroundUptoSaid : Prop := queryAroundUptoRow.holds Tryd.pinned (OpenSpec.upto queryAroundSpec)

/-- 'rubricklaw16.QueryOne', WHERE WHAT IT READS IS OF BULK AT MOST 1048576: true; the input reads as it did. -/
def queryOneUptoRow : OpenClaim := { program := "ytjbmihgfneamlaadoor", sum := "097e2dbe43d47af6c63c8588e392b1295a2a4964f7f454823520a953884a2712", func := "rubrick/rubricklaw16.QueryOne", spec := "queryOne", unfollowed := true, recurses := true, named := ["rubrick/utf.letters", "rubrick/utf.shifts"], apart := false, laid := [("rubrick/utf.letters", laid_rubrick_utf_letters), ("rubrick/utf.shifts", laid_rubrick_utf_shifts)], narrowed := true }
def QueryOneUptoSaid : Prop := queryOneUptoRow.holds Tryd.pinned (OpenSpec.upto queryOneSpec)

/-- 'rubricklaw05.TokenCuts', WHERE WHAT IT READS IS OF BULK AT MOST 1048576: true; the input reads as it did. -/
def tokenCutsUptoRow : OpenClaim := { program := "ytjbmihgfneamlaadoor", sum := "097e2dbe43d47af6c63c8588e392b1295a2a4964f7f454823520a953884a2712", func := "rubrick/rubricklaw05.TokenCuts", spec := "tokenCuts", unfollowed := true, recurses := true, named := ["rubrick/utf.letters", "rubrick/utf.shifts"], apart := false, laid := [("rubrick/utf.letters", laid_rubrick_utf_letters), ("rubrick/utf.shifts", laid_rubrick_utf_shifts)], narrowed := true }
def TokenCutsUptoSaid : Prop := tokenCutsUptoRow.holds Tryd.pinned (OpenSpec.upto tokenCutsSpec)

/-- 'rubricklaw05.TokenPlaces', WHERE WHAT IT READS IS OF BULK AT MOST 1048576: true; the input reads as it did. -/
def tokenPlacesUptoRow : OpenClaim := { program := "ytjbmihgfneamlaadoor", sum := "097e2dbe43d47af6c63c8588e392b1295a2a4964f7f454823520a953884a2712", func := "rubrick/rubricklaw05.TokenPlaces", spec := "tokenPlaces", unfollowed := true, recurses := true, named := ["rubrick/utf.letters", "rubrick/utf.shifts"], apart := false, laid := [("rubrick/utf.letters", laid_rubrick_utf_letters), ("rubrick/utf.shifts", laid_rubrick_utf_shifts)], narrowed := true }
def TokenPlacesUptoSaid : Prop := tokenPlacesUptoRow.holds Tryd.pinned (OpenSpec.upto tokenPlacesSpec)

/-- 'rubricklaw05.TokenRights', WHERE WHAT IT READS IS OF BULK AT MOST 1048576: true; the input reads as it did. -/
def tokenRightsUptoRow : OpenClaim := { program := "ytjbmihgfneamlaadoor", sum := "097e2dbe43d47af6c63c8588e392b1295a2a4964f7f454823520a953884a2712", func := "rubrick/rubricklaw05.TokenRights", spec := "tokenRights", unfollowed := true, recurses := true, named := ["rubrick/utf.letters", "rubrick/utf.shifts"], apart := false, laid := [("rubrick/utf.letters", laid_rubrick_utf_letters), ("rubrick/utf.shifts", laid_rubrick_utf_shifts)], narrowed := true }
def TokenRightsUptoSaid : Prop := tokenRightsUptoRow.holds Tryd.pinned (OpenSpec.upto tokenRightsSpec)

/-- 'rubricklaw05.TokenRows', WHERE WHAT IT READS IS OF BULK AT MOST 1048576: true; the input reads as it did. -/
def tokenRowsUptoRow : OpenClaim := { program := "ytjbmihgfneamlaadoor", sum := "097e2dbe43d47af6c63c8588e392b1295a2a4964f7f454823520a953884a2712", func := "rubrick/rubricklaw05.TokenRows", spec := "tokenRows", unfollowed := true, recurses := true, named := ["rubrick/utf.letters", "rubrick/utf.shifts"], apart := false, laid := [("rubrick/utf.letters", laid_rubrick_utf_letters), ("rubrick/utf.shifts", laid_rubrick_utf_shifts)], narrowed := true }
def TokenRowsUptoSaid : Prop := tokenRowsUptoRow.holds Tryd.pinned (OpenSpec.upto tokenRowsSpec)

/-- 'rubricklaw05.TokenSets', WHERE WHAT IT READS IS OF BULK AT MOST 1048576: true; the input reads as it did. -/
def tokenSetsUptoRow : OpenClaim := { program := "ytjbmihgfneamlaadoor", sum := "097e2dbe43d47af6c63c8588e392b1295a2a4964f7f454823520a953884a2712", func := "rubrick/rubricklaw05.TokenSets", spec := "tokenSets", unfollowed := true, recurses := true, named := ["rubrick/utf.letters", "rubrick/utf.shifts"], apart := false, laid := [("rubrick/utf.letters", laid_rubrick_utf_letters), ("rubrick/utf.shifts", laid_rubrick_utf_shifts)], narrowed := true }
def TokenSetsUptoSaid : Prop := tokenSetsUptoRow.holds Tryd.pinned (OpenSpec.upto tokenSetsSpec)

/-- 'rubricklaw05.TokenCase', WHERE WHAT IT READS IS OF BULK AT MOST 1048576: true; the input reads as it did. -/
def tokenCaseUptoRow : OpenClaim := { program := "ytjbmihgfneamlaadoor", sum := "097e2dbe43d47af6c63c8588e392b1295a2a4964f7f454823520a953884a2712", func := "rubrick/rubricklaw05.TokenCase", spec := "tokenCase", unfollowed := true, recurses := true, named := ["rubrick/utf.letters", "rubrick/utf.shifts"], apart := false, laid := [("rubrick/utf.letters", laid_rubrick_utf_letters), ("rubrick/utf.shifts", laid_rubrick_utf_shifts)], narrowed := true }
def TokenCaseUptoSaid : Prop := tokenCaseUptoRow.holds Tryd.pinned (OpenSpec.upto tokenCaseSpec)

/-- 'rubricklaw16.QueryRight', WHERE WHAT IT READS IS OF BULK AT MOST 1048576: true; the input reads as it did. -/
def queryRightUptoRow : OpenClaim := { program := "ytjbmihgfneamlaadoor", sum := "097e2dbe43d47af6c63c8588e392b1295a2a4964f7f454823520a953884a2712", func := "rubrick/rubricklaw16.QueryRight", spec := "queryRight", unfollowed := true, recurses := true, named := ["rubrick/utf.letters", "rubrick/utf.shifts"], apart := false, laid := [("rubrick/utf.letters", laid_rubrick_utf_letters), ("rubrick/utf.shifts", laid_rubrick_utf_shifts)], narrowed := true }
def QueryRightUptoSaid : Prop := queryRightUptoRow.holds Tryd.pinned (OpenSpec.upto queryRightSpec)

end Rows
end Go.Proofs.YtjbmihgfneamlaaDoor
