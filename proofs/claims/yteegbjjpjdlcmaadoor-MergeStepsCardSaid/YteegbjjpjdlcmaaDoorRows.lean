/-
  NARROWER THAN 'FOR EVERY INPUT', by the rows' own cells (each row's printed sentence says how): MergeOne: laid · EvalRuns: laid · EvalParts: laid · EvalBounds: laid · EvalSwap: laid · MergeSteps: laid.
  DERIVED. THE GIVEN ROWS OF THIS SEAT. 6 by the template 'for every input the law returns true; each argument reads behind the call as it read before'; 0 by the template 'total and deterministic' (their statements: YteegbjjpjdlcmaaDoorTotals.lean).
  GIVEN WITH THE SEED: the statements are not yours to turn. If you find one false, say at which input.
  Laid BY PROGRAM, IN A SANDBOX (cutbox-rows.mjs): the forced cells as the released guide's own fill.sh prints them over the translation 6ab7bb2a4d14f55f… (all of the seat's roots in one cut). By AI agents, Wed Nov 11 2026. No macro, syntax, notation, axiom, sorry.
-/
import Derived.Test.YteegbjjpjdlcmaaDoorChecked
import GoSem.Claim
import GoSem.ClaimJoined
import GoSem.ClaimMapViews
import Derived.JoinedTies
import Derived.KernelRfl
namespace Go.Proofs.YteegbjjpjdlcmaaDoor
/- THE CELL 'sum', in the pinned program and in every row, IS THE sha256 OF THE DUMP (.gsa) THAT YteegbjjpjdlcmaaDoorProg.lean LOADS. Nothing in Lean hashes anything: it is a label: what it is worth is what the hold of that sum in a sandbox is worth. -/
noncomputable def Tryd.pinned : Pinned := { name := "yteegbjjpjdlcmaadoor", sum := "6ab7bb2a4d14f55f25aac7cf7fe93b313d9941d3921d26795ab1725ebdf8445f", checked := Tryd.checked }
namespace Rows
def none {H : Type} : Left H := { results := [], args := [] }

/- WHAT THE LISTED PACKAGE-LEVEL VARIABLES READ AS WHEN THE CALL BEGINS. Each datum BY PROGRAM (the guide's laid-datum.mjs) off the statement by which the dump's own 'gosem.cut.vars' lays the variable. In a bare row this is a premise. The card (YteegbjjpjdlcmaaDoorCards.lean) ties it to the program's text. -/
def laid_rubrick_utf_letters {H : Type} : DataW H := .agg [.agg [.lit (.int .i64 65), .lit (.int .i64 90)], .agg [.lit (.int .i64 97), .lit (.int .i64 122)], .agg [.lit (.int .i64 192), .lit (.int .i64 214)], .agg [.lit (.int .i64 216), .lit (.int .i64 246)], .agg [.lit (.int .i64 248), .lit (.int .i64 255)], .agg [.lit (.int .i64 913), .lit (.int .i64 929)], .agg [.lit (.int .i64 931), .lit (.int .i64 937)], .agg [.lit (.int .i64 945), .lit (.int .i64 969)], .agg [.lit (.int .i64 1024), .lit (.int .i64 1119)]]
def laid_rubrick_utf_shifts {H : Type} : DataW H := .agg [.agg [.lit (.int .i64 65), .lit (.int .i64 90), .lit (.int .i64 32)], .agg [.lit (.int .i64 192), .lit (.int .i64 214), .lit (.int .i64 32)], .agg [.lit (.int .i64 216), .lit (.int .i64 222), .lit (.int .i64 32)], .agg [.lit (.int .i64 913), .lit (.int .i64 929), .lit (.int .i64 32)], .agg [.lit (.int .i64 931), .lit (.int .i64 937), .lit (.int .i64 32)], .agg [.lit (.int .i64 1024), .lit (.int .i64 1039), .lit (.int .i64 80)], .agg [.lit (.int .i64 1040), .lit (.int .i64 1071), .lit (.int .i64 32)]]

/-- 'rubricklaw13.MergeOne': WHATEVER THE INPUT: true; the input reads as it did. -/
def mergeOneSpec : ChangeSpec := { name := "mergeOne", fn := fun _ => fun
  | [d] => { results := [.lit (.bool true)], args := [d] }
  | _ => none }
def mergeOneRow : OpenClaim := { program := "yteegbjjpjdlcmaadoor", sum := "6ab7bb2a4d14f55f25aac7cf7fe93b313d9941d3921d26795ab1725ebdf8445f", func := "rubrick/rubricklaw13.MergeOne", spec := "mergeOne", unfollowed := true, recurses := true, named := ["rubrick/utf.letters", "rubrick/utf.shifts"], apart := false, laid := [("rubrick/utf.letters", laid_rubrick_utf_letters), ("rubrick/utf.shifts", laid_rubrick_utf_shifts)] }
def MergeOneSaid : Prop := mergeOneRow.holds Tryd.pinned (OpenSpec.ofChange mergeOneSpec)

/-- ITS FALSE NEIGHBOUR: 'it returns false'. Refute it at one input. -/
def mergeOneWrong : ChangeSpec := { name := "mergeOne", fn := fun _ => fun
  | [d] => { results := [.lit (.bool false)], args := [d] }
  | _ => none }
def MergeOneWrongFalsely : Prop := mergeOneRow.holds Tryd.pinned (OpenSpec.ofChange mergeOneWrong)

/-- 'rubricklaw17.EvalRuns': WHATEVER THE INPUT: true; the input reads as it did. -/
def evalRunsSpec : ChangeSpec := { name := "evalRuns", fn := fun _ => fun
  | [d1, d2] => { results := [.lit (.bool true)], args := [d1, d2] }
  | _ => none }
def evalRunsRow : OpenClaim := { program := "yteegbjjpjdlcmaadoor", sum := "6ab7bb2a4d14f55f25aac7cf7fe93b313d9941d3921d26795ab1725ebdf8445f", func := "rubrick/rubricklaw17.EvalRuns", spec := "evalRuns", unfollowed := true, recurses := true, named := ["rubrick/utf.letters", "rubrick/utf.shifts"], apart := false, laid := [("rubrick/utf.letters", laid_rubrick_utf_letters), ("rubrick/utf.shifts", laid_rubrick_utf_shifts)] }
def EvalRunsSaid : Prop := evalRunsRow.holds Tryd.pinned (OpenSpec.ofChange evalRunsSpec)

/-- ITS FALSE NEIGHBOUR: 'it returns false'. Refute it at one input. -/
def evalRunsWrong : ChangeSpec := { name := "evalRuns", fn := fun _ => fun
  | [d1, d2] => { results := [.lit (.bool false)], args := [d1, d2] }
  | _ => none }
def EvalRunsWrongFalsely : Prop := evalRunsRow.holds Tryd.pinned (OpenSpec.ofChange evalRunsWrong)

/-- 'rubricklaw17.EvalParts': WHATEVER THE INPUT: true; the input reads as it did. -/
def evalPartsSpec : ChangeSpec := { name := "evalParts", fn := fun _ => fun
  | [d1, d2, d3] => { results := [.lit (.bool true)], args := [d1, d2, d3] }
  | _ => none }
def evalPartsRow : OpenClaim := { program := "yteegbjjpjdlcmaadoor", sum := "6ab7bb2a4d14f55f25aac7cf7fe93b313d9941d3921d26795ab1725ebdf8445f", func := "rubrick/rubricklaw17.EvalParts", spec := "evalParts", unfollowed := true, recurses := true, named := ["rubrick/utf.letters", "rubrick/utf.shifts"], apart := false, laid := [("rubrick/utf.letters", laid_rubrick_utf_letters), ("rubrick/utf.shifts", laid_rubrick_utf_shifts)] }
def EvalPartsSaid : Prop := evalPartsRow.holds Tryd.pinned (OpenSpec.ofChange evalPartsSpec)

/-- ITS FALSE NEIGHBOUR: 'it returns false'. Refute it at one input. -/
def evalPartsWrong : ChangeSpec := { name := "evalParts", fn := fun _ => fun
  | [d1, d2, d3] => { results := [.lit (.bool false)], args := [d1, d2, d3] }
  | _ => none }
def EvalPartsWrongFalsely : Prop := evalPartsRow.holds Tryd.pinned (OpenSpec.ofChange evalPartsWrong)

/-- 'rubricklaw17.EvalBounds': WHATEVER THE INPUT: true; the input reads as it did. -/
def evalBoundsSpec : ChangeSpec := { name := "evalBounds", fn := fun _ => fun
  | [d1, d2, d3] => { results := [.lit (.bool true)], args := [d1, d2, d3] }
  | _ => none }
def evalBoundsRow : OpenClaim := { program := "yteegbjjpjdlcmaadoor", sum := "6ab7bb2a4d14f55f25aac7cf7fe93b313d9941d3921d26795ab1725ebdf8445f", func := "rubrick/rubricklaw17.EvalBounds", spec := "evalBounds", unfollowed := true, recurses := true, named := ["rubrick/utf.letters", "rubrick/utf.shifts"], apart := false, laid := [("rubrick/utf.letters", laid_rubrick_utf_letters), ("rubrick/utf.shifts", laid_rubrick_utf_shifts)] }
def EvalBoundsSaid : Prop := evalBoundsRow.holds Tryd.pinned (OpenSpec.ofChange evalBoundsSpec)

/-- ITS FALSE NEIGHBOUR: 'it returns false'. Refute it at one input. -/
def evalBoundsWrong : ChangeSpec := { name := "evalBounds", fn := fun _ => fun
  | [d1, d2, d3] => { results := [.lit (.bool false)], args := [d1, d2, d3] }
  | _ => none }
def EvalBoundsWrongFalsely : Prop := evalBoundsRow.holds Tryd.pinned (OpenSpec.ofChange evalBoundsWrong)

/-- 'rubricklaw17.EvalSwap': WHATEVER THE INPUT: true; the input reads as it did. -/
def evalSwapSpec : ChangeSpec := { name := "evalSwap", fn := fun _ => fun
  | [d1, d2, d3] => { results := [.lit (.bool true)], args := [d1, d2, d3] }
  | _ => none }
def evalSwapRow : OpenClaim := { program := "yteegbjjpjdlcmaadoor", sum := "6ab7bb2a4d14f55f25aac7cf7fe93b313d9941d3921d26795ab1725ebdf8445f", func := "rubrick/rubricklaw17.EvalSwap", spec := "evalSwap", unfollowed := true, recurses := true, named := ["rubrick/utf.letters", "rubrick/utf.shifts"], apart := false, laid := [("rubrick/utf.letters", laid_rubrick_utf_letters), ("rubrick/utf.shifts", laid_rubrick_utf_shifts)] }
def EvalSwapSaid : Prop := evalSwapRow.holds Tryd.pinned (OpenSpec.ofChange evalSwapSpec)

/-- ITS FALSE NEIGHBOUR: 'it returns false'. Refute it at one input. -/
def evalSwapWrong : ChangeSpec := { name := "evalSwap", fn := fun _ => fun
  | [d1, d2, d3] => { results := [.lit (.bool false)], args := [d1, d2, d3] }
  | _ => none }
def EvalSwapWrongFalsely : Prop := evalSwapRow.holds Tryd.pinned (OpenSpec.ofChange evalSwapWrong)

/-- 'rubricklaw13.MergeSteps': WHATEVER THE INPUT: true; the input reads as it did. -/
def mergeStepsSpec : ChangeSpec := { name := "mergeSteps", fn := fun _ => fun
  | [d1, d2, d3] => { results := [.lit (.bool true)], args := [d1, d2, d3] }
  | _ => none }
def mergeStepsRow : OpenClaim := { program := "yteegbjjpjdlcmaadoor", sum := "6ab7bb2a4d14f55f25aac7cf7fe93b313d9941d3921d26795ab1725ebdf8445f", func := "rubrick/rubricklaw13.MergeSteps", spec := "mergeSteps", unfollowed := true, recurses := true, named := ["rubrick/utf.letters", "rubrick/utf.shifts"], apart := false, laid := [("rubrick/utf.letters", laid_rubrick_utf_letters), ("rubrick/utf.shifts", laid_rubrick_utf_shifts)] }
def MergeStepsSaid : Prop := mergeStepsRow.holds Tryd.pinned (OpenSpec.ofChange mergeStepsSpec)

/-- ITS FALSE NEIGHBOUR: 'it returns false'. Refute it at one input. -/
def mergeStepsWrong : ChangeSpec := { name := "mergeSteps", fn := fun _ => fun
  | [d1, d2, d3] => { results := [.lit (.bool false)], args := [d1, d2, d3] }
  | _ => none }
def MergeStepsWrongFalsely : Prop := mergeStepsRow.holds Tryd.pinned (OpenSpec.ofChange mergeStepsWrong)

/- THE SECOND FORM. 'bulk': how many values and letters a reading holds, each counted each time it is reached (what is shared counts as often as it is met; a slice's spare places count too). A statement '..UptoSaid' is the law's where the arguments, and the package variables that the reading takes, are together of bulk at most 1048576: NARROWER than '..Said'. Prove '..Said' where nothing that the law and all that it calls make is longer than what came in: it says more and counts as full. Else prove '..UptoSaid'. A law counts once. -/
mutual
def uptoBulk {H : Type} : DataW H → Nat
  | .lit (.string bytes) => bytes.length + 1
  | .lit _ => 1
  | .nil => 1
  | .ptr d => uptoBulk d + 1
  | .slice elems spare => uptoBulkAll elems + uptoBulkAll spare + 1
  | .agg parts => uptoBulkAll parts + 1
  | .iface _ d => uptoBulk d + 1
  | .map entries => uptoBulkEntries entries + 1
  | .held _ => 1
def uptoBulkAll {H : Type} : List (DataW H) → Nat
  | [] => 0
  | d :: r => uptoBulk d + uptoBulkAll r
def uptoBulkEntries {H : Type} : List (Lit × DataW H) → Nat
  | [] => 0
  | x :: r => uptoBulkEntry x + uptoBulkEntries r
def uptoBulkEntry {H : Type} : Lit × DataW H → Nat
  | (.string bytes, d) => bytes.length + uptoBulk d + 1
  | (_, d) => uptoBulk d + 1
 end
def uptoSmall : (H : Type) → List (DataW H) → Bool := fun _ ds => decide (uptoBulkAll ds ≤ 1048576)
def OpenSpec.upto (s : _root_.Go.ChangeSpec) : _root_.Go.OpenSpec := { _root_.Go.OpenSpec.ofChange s with cond := some uptoSmall }

/-- 'rubricklaw13.MergeOne', WHERE WHAT IT READS IS OF BULK AT MOST 1048576: true; the input reads as it did. -/
def mergeOneUptoRow : OpenClaim := { program := "yteegbjjpjdlcmaadoor", sum := "6ab7bb2a4d14f55f25aac7cf7fe93b313d9941d3921d26795ab1725ebdf8445f", func := "rubrick/rubricklaw13.MergeOne", spec := "mergeOne", unfollowed := true, recurses := true, named := ["rubrick/utf.letters", "rubrick/utf.shifts"], apart := false, laid := [("rubrick/utf.letters", laid_rubrick_utf_letters), ("rubrick/utf.shifts", laid_rubrick_utf_shifts)], narrowed := true }
def MergeOneUptoSaid : Prop := mergeOneUptoRow.holds Tryd.pinned (OpenSpec.upto mergeOneSpec)

/-- 'rubricklaw17.EvalRuns', WHERE WHAT IT READS IS OF BULK AT MOST 1048576: true; the input reads as it did. -/
def evalRunsUptoRow : OpenClaim := { program := "yteegbjjpjdlcmaadoor", sum := "6ab7bb2a4d14f55f25aac7cf7fe93b313d9941d3921d26795ab1725ebdf8445f", func := "rubrick/rubricklaw17.EvalRuns", spec := "evalRuns", unfollowed := true, recurses := true, named := ["rubrick/utf.letters", "rubrick/utf.shifts"], apart := false, laid := [("rubrick/utf.letters", laid_rubrick_utf_letters), ("rubrick/utf.shifts", laid_rubrick_utf_shifts)], narrowed := true }
def EvalRunsUptoSaid : Prop := evalRunsUptoRow.holds Tryd.pinned (OpenSpec.upto evalRunsSpec)

/-- 'rubricklaw17.EvalParts', WHERE WHAT IT READS IS OF BULK AT MOST 1048576: true; the input reads as it did. -/
def evalPartsUptoRow : OpenClaim := { program := "yteegbjjpjdlcmaadoor", sum := "6ab7bb2a4d14f55f25aac7cf7fe93b313d9941d3921d26795ab1725ebdf8445f", func := "rubrick/rubricklaw17.EvalParts", spec := "evalParts", unfollowed := true, recurses := true, named := ["rubrick/utf.letters", "rubrick/utf.shifts"], apart := false, laid := [("rubrick/utf.letters", laid_rubrick_utf_letters), ("rubrick/utf.shifts", laid_rubrick_utf_shifts)], narrowed := true }
def EvalPartsUptoSaid : Prop := evalPartsUptoRow.holds Tryd.pinned (OpenSpec.upto evalPartsSpec)

/-- 'rubricklaw17.EvalBounds', WHERE WHAT IT READS IS OF BULK AT MOST 1048576: true; the input reads as it did. -/
def evalBoundsUptoRow : OpenClaim := { program := "yteegbjjpjdlcmaadoor", sum := "6ab7bb2a4d14f55f25aac7cf7fe93b313d9941d3921d26795ab1725ebdf8445f", func := "rubrick/rubricklaw17.EvalBounds", spec := "evalBounds", unfollowed := true, recurses := true, named := ["rubrick/utf.letters", "rubrick/utf.shifts"], apart := false, laid := [("rubrick/utf.letters", laid_rubrick_utf_letters), ("rubrick/utf.shifts", laid_rubrick_utf_shifts)], narrowed := true }
def EvalBoundsUptoSaid : Prop := evalBoundsUptoRow.holds Tryd.pinned (OpenSpec.upto evalBoundsSpec)

/-- 'rubricklaw17.EvalSwap', WHERE WHAT IT READS IS OF BULK AT MOST 1048576: true; the input reads as it did. -/
def evalSwapUptoRow : OpenClaim := { program := "yteegbjjpjdlcmaadoor", sum := "6ab7bb2a4d14f55f25aac7cf7fe93b313d9941d3921d26795ab1725ebdf8445f", func := "rubrick/rubricklaw17.EvalSwap", spec := "evalSwap", unfollowed := true, recurses := true, named := ["rubrick/utf.letters", "rubrick/utf.shifts"], apart := false, laid := [("rubrick/utf.letters", laid_rubrick_utf_letters), ("rubrick/utf.shifts", laid_rubrick_utf_shifts)], narrowed := true }
def EvalSwapUptoSaid : Prop := evalSwapUptoRow.holds Tryd.pinned (OpenSpec.upto evalSwapSpec)

/-- 'rubricklaw13.MergeSteps', WHERE WHAT IT READS IS OF BULK AT MOST 1048576: true; the input reads as it did. -/
def mergeStepsUptoRow : OpenClaim := { program := "yteegbjjpjdlcmaadoor", sum := "6ab7bb2a4d14f55f25aac7cf7fe93b313d9941d3921d26795ab1725ebdf8445f", func := "rubrick/rubricklaw13.MergeSteps", spec := "mergeSteps", unfollowed := true, recurses := true, named := ["rubrick/utf.letters", "rubrick/utf.shifts"], apart := false, laid := [("rubrick/utf.letters", laid_rubrick_utf_letters), ("rubrick/utf.shifts", laid_rubrick_utf_shifts)], narrowed := true }
def MergeStepsUptoSaid : Prop := mergeStepsUptoRow.holds Tryd.pinned (OpenSpec.upto mergeStepsSpec)

end Rows
end Go.Proofs.YteegbjjpjdlcmaaDoor
