/-
  NARROWER THAN 'FOR EVERY INPUT', by the rows' own cells (each row's printed sentence says how): PlanChecks: laid · PlanRows: laid · PlanGone: laid · PlanPasses: laid · ChangeFolds: laid · ChangeCuts: laid · ChangeDiffs: laid · ChangeMakes: laid · ChangeAdds: laid · ChangeNets: laid · ChangeUndoes: laid.
  DERIVED. THE GIVEN ROWS OF THIS SEAT. 11 by the template 'for every input the law returns true; each argument reads behind the call as it read before'; 0 by the template 'total and deterministic' (their statements: YtelmlagolmabpaaDoorTotals.lean).
  GIVEN WITH THE SEED: the statements are not yours to turn. If you find one false, say at which input.
  Laid BY PROGRAM, IN A SANDBOX (cutbox-rows.mjs): the forced cells as the released guide's own fill.sh prints them over the translation 1f9b72079640a097… (all of the seat's roots in one cut). By AI agents, Wed Nov 11 2026. No macro, syntax, notation, axiom, sorry.
-/
import Derived.Test.YtelmlagolmabpaaDoorChecked
import GoSem.PinnedTables
import GoSem.Claim
import GoSem.ClaimJoined
import GoSem.ClaimMapViews
import Derived.JoinedTies
import Derived.KernelRfl
namespace Go.Proofs.YtelmlagolmabpaaDoor
/- THE CELL 'sum', in the pinned program and in every row, IS THE sha256 OF THE DUMP (.gsa) THAT YtelmlagolmabpaaDoorProg.lean LOADS. Nothing in Lean hashes anything: it is a label: what it is worth is what the hold of that sum in a sandbox is worth. -/
noncomputable def Tryd.pinned : Pinned := { name := "ytelmlagolmabpaadoor", sum := "1f9b72079640a0971affbc9fde932d650627818ad933a397bcaea5583f6cf0f4", checked := Tryd.checked }
namespace Rows
def none {H : Type} : Left H := { results := [], args := [] }

/- WHAT THE LISTED PACKAGE-LEVEL VARIABLES READ AS WHEN THE CALL BEGINS. Each datum BY PROGRAM (the guide's laid-datum.mjs) off the statement by which the dump's own 'gosem.cut.vars' lays the variable. In a bare row this is a premise. The card (YtelmlagolmabpaaDoorCards.lean) ties it to the program's text. -/
def laid_unicode_utf8_acceptRanges {H : Type} : DataW H := .agg [.agg [.lit (.int .u8 128), .lit (.int .u8 191)], .agg [.lit (.int .u8 160), .lit (.int .u8 191)], .agg [.lit (.int .u8 128), .lit (.int .u8 159)], .agg [.lit (.int .u8 144), .lit (.int .u8 191)], .agg [.lit (.int .u8 128), .lit (.int .u8 143)], .agg [.lit (.int .u8 0), .lit (.int .u8 0)], .agg [.lit (.int .u8 0), .lit (.int .u8 0)], .agg [.lit (.int .u8 0), .lit (.int .u8 0)], .agg [.lit (.int .u8 0), .lit (.int .u8 0)], .agg [.lit (.int .u8 0), .lit (.int .u8 0)], .agg [.lit (.int .u8 0), .lit (.int .u8 0)], .agg [.lit (.int .u8 0), .lit (.int .u8 0)], .agg [.lit (.int .u8 0), .lit (.int .u8 0)], .agg [.lit (.int .u8 0), .lit (.int .u8 0)], .agg [.lit (.int .u8 0), .lit (.int .u8 0)], .agg [.lit (.int .u8 0), .lit (.int .u8 0)]]
/-- One of Go's own tables, pinned by name: the form's constant. -/
def laid_unicode_utf8_first : DataW Unit := Go.Pinned.utf8First

/-- 'meetwaterlaw.PlanChecks': WHATEVER THE INPUT: true; the input reads as it did. -/
def planChecksSpec : ChangeSpec := { name := "planChecks", fn := fun _ => fun
  | [d] => { results := [.lit (.bool true)], args := [d] }
  | _ => none }
def planChecksRow : OpenClaim := { program := "ytelmlagolmabpaadoor", sum := "1f9b72079640a0971affbc9fde932d650627818ad933a397bcaea5583f6cf0f4", func := "meetwater/meetwaterlaw.PlanChecks", spec := "planChecks", inPlace := ["internal/bytealg.CountString", "internal/bytealg.IndexByteString", "internal/bytealg.IndexString", "internal/abi.NoEscape", "internal/bytealg.MakeNoZero"], unfollowed := true, recurses := true, named := ["internal/bytealg.MaxLen", "unicode/utf8.first", "unicode/utf8.acceptRanges"], apart := false, laid := [("unicode/utf8.acceptRanges", laid_unicode_utf8_acceptRanges), ("unicode/utf8.first", laid_unicode_utf8_first)] }
def PlanChecksSaid : Prop := planChecksRow.holds Tryd.pinned (OpenSpec.ofChange planChecksSpec)

/-- ITS FALSE NEIGHBOUR: 'it returns false'. Refute it at one input. -/
def planChecksWrong : ChangeSpec := { name := "planChecks", fn := fun _ => fun
  | [d] => { results := [.lit (.bool false)], args := [d] }
  | _ => none }
def PlanChecksWrongFalsely : Prop := planChecksRow.holds Tryd.pinned (OpenSpec.ofChange planChecksWrong)

/-- 'meetwaterlaw.PlanRows': WHATEVER THE INPUT: true; the input reads as it did. -/
def planRowsSpec : ChangeSpec := { name := "planRows", fn := fun _ => fun
  | [d1, d2, d3] => { results := [.lit (.bool true)], args := [d1, d2, d3] }
  | _ => none }
def planRowsRow : OpenClaim := { program := "ytelmlagolmabpaadoor", sum := "1f9b72079640a0971affbc9fde932d650627818ad933a397bcaea5583f6cf0f4", func := "meetwater/meetwaterlaw.PlanRows", spec := "planRows", inPlace := ["internal/bytealg.CountString", "internal/bytealg.IndexByteString", "internal/bytealg.IndexString", "internal/abi.NoEscape", "internal/bytealg.MakeNoZero"], unfollowed := true, recurses := true, named := ["internal/bytealg.MaxLen", "unicode/utf8.first", "unicode/utf8.acceptRanges"], apart := false, laid := [("unicode/utf8.acceptRanges", laid_unicode_utf8_acceptRanges), ("unicode/utf8.first", laid_unicode_utf8_first)] }
def PlanRowsSaid : Prop := planRowsRow.holds Tryd.pinned (OpenSpec.ofChange planRowsSpec)

/-- ITS FALSE NEIGHBOUR: 'it returns false'. Refute it at one input. -/
def planRowsWrong : ChangeSpec := { name := "planRows", fn := fun _ => fun
  | [d1, d2, d3] => { results := [.lit (.bool false)], args := [d1, d2, d3] }
  | _ => none }
def PlanRowsWrongFalsely : Prop := planRowsRow.holds Tryd.pinned (OpenSpec.ofChange planRowsWrong)

/-- 'meetwaterlaw.PlanGone': WHATEVER THE INPUT: true; the input reads as it did. -/
def planGoneSpec : ChangeSpec := { name := "planGone", fn := fun _ => fun
  | [d1, d2, d3] => { results := [.lit (.bool true)], args := [d1, d2, d3] }
  | _ => none }
def planGoneRow : OpenClaim := { program := "ytelmlagolmabpaadoor", sum := "1f9b72079640a0971affbc9fde932d650627818ad933a397bcaea5583f6cf0f4", func := "meetwater/meetwaterlaw.PlanGone", spec := "planGone", inPlace := ["internal/bytealg.CountString", "internal/bytealg.IndexByteString", "internal/bytealg.IndexString", "internal/abi.NoEscape", "internal/bytealg.MakeNoZero"], unfollowed := true, recurses := true, named := ["internal/bytealg.MaxLen", "unicode/utf8.first", "unicode/utf8.acceptRanges"], apart := false, laid := [("unicode/utf8.acceptRanges", laid_unicode_utf8_acceptRanges), ("unicode/utf8.first", laid_unicode_utf8_first)] }
def PlanGoneSaid : Prop := planGoneRow.holds Tryd.pinned (OpenSpec.ofChange planGoneSpec)

/-- ITS FALSE NEIGHBOUR: 'it returns false'. Refute it at one input. -/
def planGoneWrong : ChangeSpec := { name := "planGone", fn := fun _ => fun
  | [d1, d2, d3] => { results := [.lit (.bool false)], args := [d1, d2, d3] }
  | _ => none }
def PlanGoneWrongFalsely : Prop := planGoneRow.holds Tryd.pinned (OpenSpec.ofChange planGoneWrong)

/-- 'meetwaterlaw.PlanPasses': WHATEVER THE INPUT: true; the input reads as it did. -/
def planPassesSpec : ChangeSpec := { name := "planPasses", fn := fun _ => fun
  | [d1, d2, d3, d4, d5] => { results := [.lit (.bool true)], args := [d1, d2, d3, d4, d5] }
  | _ => none }
def planPassesRow : OpenClaim := { program := "ytelmlagolmabpaadoor", sum := "1f9b72079640a0971affbc9fde932d650627818ad933a397bcaea5583f6cf0f4", func := "meetwater/meetwaterlaw.PlanPasses", spec := "planPasses", inPlace := ["internal/bytealg.CountString", "internal/bytealg.IndexByteString", "internal/bytealg.IndexString", "internal/abi.NoEscape", "internal/bytealg.MakeNoZero"], unfollowed := true, recurses := true, named := ["internal/bytealg.MaxLen", "unicode/utf8.first", "unicode/utf8.acceptRanges"], apart := false, laid := [("unicode/utf8.acceptRanges", laid_unicode_utf8_acceptRanges), ("unicode/utf8.first", laid_unicode_utf8_first)] }
def PlanPassesSaid : Prop := planPassesRow.holds Tryd.pinned (OpenSpec.ofChange planPassesSpec)

/-- ITS FALSE NEIGHBOUR: 'it returns false'. Refute it at one input. -/
def planPassesWrong : ChangeSpec := { name := "planPasses", fn := fun _ => fun
  | [d1, d2, d3, d4, d5] => { results := [.lit (.bool false)], args := [d1, d2, d3, d4, d5] }
  | _ => none }
def PlanPassesWrongFalsely : Prop := planPassesRow.holds Tryd.pinned (OpenSpec.ofChange planPassesWrong)

/-- 'meetwaterlaw.ChangeFolds': WHATEVER THE INPUT: true; the input reads as it did. -/
def changeFoldsSpec : ChangeSpec := { name := "changeFolds", fn := fun _ => fun
  | [d1, d2] => { results := [.lit (.bool true)], args := [d1, d2] }
  | _ => none }
def changeFoldsRow : OpenClaim := { program := "ytelmlagolmabpaadoor", sum := "1f9b72079640a0971affbc9fde932d650627818ad933a397bcaea5583f6cf0f4", func := "meetwater/meetwaterlaw.ChangeFolds", spec := "changeFolds", inPlace := ["internal/bytealg.CountString", "internal/bytealg.IndexByteString", "internal/bytealg.IndexString", "internal/abi.NoEscape", "internal/bytealg.MakeNoZero"], unfollowed := true, recurses := true, named := ["internal/bytealg.MaxLen", "unicode/utf8.first", "unicode/utf8.acceptRanges"], apart := false, laid := [("unicode/utf8.acceptRanges", laid_unicode_utf8_acceptRanges), ("unicode/utf8.first", laid_unicode_utf8_first)] }
def ChangeFoldsSaid : Prop := changeFoldsRow.holds Tryd.pinned (OpenSpec.ofChange changeFoldsSpec)

/-- ITS FALSE NEIGHBOUR: 'it returns false'. Refute it at one input. -/
def changeFoldsWrong : ChangeSpec := { name := "changeFolds", fn := fun _ => fun
  | [d1, d2] => { results := [.lit (.bool false)], args := [d1, d2] }
  | _ => none }
def ChangeFoldsWrongFalsely : Prop := changeFoldsRow.holds Tryd.pinned (OpenSpec.ofChange changeFoldsWrong)

/-- 'meetwaterlaw.ChangeCuts': WHATEVER THE INPUT: true; the input reads as it did. -/
def changeCutsSpec : ChangeSpec := { name := "changeCuts", fn := fun _ => fun
  | [d1, d2, d3] => { results := [.lit (.bool true)], args := [d1, d2, d3] }
  | _ => none }
def changeCutsRow : OpenClaim := { program := "ytelmlagolmabpaadoor", sum := "1f9b72079640a0971affbc9fde932d650627818ad933a397bcaea5583f6cf0f4", func := "meetwater/meetwaterlaw.ChangeCuts", spec := "changeCuts", inPlace := ["internal/bytealg.CountString", "internal/bytealg.IndexByteString", "internal/bytealg.IndexString", "internal/abi.NoEscape", "internal/bytealg.MakeNoZero"], unfollowed := true, recurses := true, named := ["internal/bytealg.MaxLen", "unicode/utf8.first", "unicode/utf8.acceptRanges"], apart := false, laid := [("unicode/utf8.acceptRanges", laid_unicode_utf8_acceptRanges), ("unicode/utf8.first", laid_unicode_utf8_first)] }
def ChangeCutsSaid : Prop := changeCutsRow.holds Tryd.pinned (OpenSpec.ofChange changeCutsSpec)

/-- ITS FALSE NEIGHBOUR: 'it returns false'. Refute it at one input. -/
def changeCutsWrong : ChangeSpec := { name := "changeCuts", fn := fun _ => fun
  | [d1, d2, d3] => { results := [.lit (.bool false)], args := [d1, d2, d3] }
  | _ => none }
def ChangeCutsWrongFalsely : Prop := changeCutsRow.holds Tryd.pinned (OpenSpec.ofChange changeCutsWrong)

/-- 'meetwaterlaw.ChangeDiffs': WHATEVER THE INPUT: true; the input reads as it did. -/
def changeDiffsSpec : ChangeSpec := { name := "changeDiffs", fn := fun _ => fun
  | [d1, d2] => { results := [.lit (.bool true)], args := [d1, d2] }
  | _ => none }
def changeDiffsRow : OpenClaim := { program := "ytelmlagolmabpaadoor", sum := "1f9b72079640a0971affbc9fde932d650627818ad933a397bcaea5583f6cf0f4", func := "meetwater/meetwaterlaw.ChangeDiffs", spec := "changeDiffs", inPlace := ["internal/bytealg.CountString", "internal/bytealg.IndexByteString", "internal/bytealg.IndexString", "internal/abi.NoEscape", "internal/bytealg.MakeNoZero"], unfollowed := true, recurses := true, named := ["internal/bytealg.MaxLen", "unicode/utf8.first", "unicode/utf8.acceptRanges"], apart := false, laid := [("unicode/utf8.acceptRanges", laid_unicode_utf8_acceptRanges), ("unicode/utf8.first", laid_unicode_utf8_first)] }
def ChangeDiffsSaid : Prop := changeDiffsRow.holds Tryd.pinned (OpenSpec.ofChange changeDiffsSpec)

/-- ITS FALSE NEIGHBOUR: 'it returns false'. Refute it at one input. -/
def changeDiffsWrong : ChangeSpec := { name := "changeDiffs", fn := fun _ => fun
  | [d1, d2] => { results := [.lit (.bool false)], args := [d1, d2] }
  | _ => none }
def ChangeDiffsWrongFalsely : Prop := changeDiffsRow.holds Tryd.pinned (OpenSpec.ofChange changeDiffsWrong)

/-- 'meetwaterlaw.ChangeMakes': WHATEVER THE INPUT: true; the input reads as it did. -/
def changeMakesSpec : ChangeSpec := { name := "changeMakes", fn := fun _ => fun
  | [d1, d2] => { results := [.lit (.bool true)], args := [d1, d2] }
  | _ => none }
def changeMakesRow : OpenClaim := { program := "ytelmlagolmabpaadoor", sum := "1f9b72079640a0971affbc9fde932d650627818ad933a397bcaea5583f6cf0f4", func := "meetwater/meetwaterlaw.ChangeMakes", spec := "changeMakes", inPlace := ["internal/bytealg.CountString", "internal/bytealg.IndexByteString", "internal/bytealg.IndexString", "internal/abi.NoEscape", "internal/bytealg.MakeNoZero"], unfollowed := true, recurses := true, named := ["internal/bytealg.MaxLen", "unicode/utf8.first", "unicode/utf8.acceptRanges"], apart := false, laid := [("unicode/utf8.acceptRanges", laid_unicode_utf8_acceptRanges), ("unicode/utf8.first", laid_unicode_utf8_first)] }
def ChangeMakesSaid : Prop := changeMakesRow.holds Tryd.pinned (OpenSpec.ofChange changeMakesSpec)

/-- ITS FALSE NEIGHBOUR: 'it returns false'. Refute it at one input. -/
def changeMakesWrong : ChangeSpec := { name := "changeMakes", fn := fun _ => fun
  | [d1, d2] => { results := [.lit (.bool false)], args := [d1, d2] }
  | _ => none }
def ChangeMakesWrongFalsely : Prop := changeMakesRow.holds Tryd.pinned (OpenSpec.ofChange changeMakesWrong)

/-- 'meetwaterlaw.ChangeAdds': WHATEVER THE INPUT: true; the input reads as it did. -/
def changeAddsSpec : ChangeSpec := { name := "changeAdds", fn := fun _ => fun
  | [d1, d2, d3] => { results := [.lit (.bool true)], args := [d1, d2, d3] }
  | _ => none }
def changeAddsRow : OpenClaim := { program := "ytelmlagolmabpaadoor", sum := "1f9b72079640a0971affbc9fde932d650627818ad933a397bcaea5583f6cf0f4", func := "meetwater/meetwaterlaw.ChangeAdds", spec := "changeAdds", inPlace := ["internal/bytealg.CountString", "internal/bytealg.IndexByteString", "internal/bytealg.IndexString", "internal/abi.NoEscape", "internal/bytealg.MakeNoZero"], unfollowed := true, recurses := true, named := ["internal/bytealg.MaxLen", "unicode/utf8.first", "unicode/utf8.acceptRanges"], apart := false, laid := [("unicode/utf8.acceptRanges", laid_unicode_utf8_acceptRanges), ("unicode/utf8.first", laid_unicode_utf8_first)] }
def ChangeAddsSaid : Prop := changeAddsRow.holds Tryd.pinned (OpenSpec.ofChange changeAddsSpec)

/-- ITS FALSE NEIGHBOUR: 'it returns false'. Refute it at one input. -/
def changeAddsWrong : ChangeSpec := { name := "changeAdds", fn := fun _ => fun
  | [d1, d2, d3] => { results := [.lit (.bool false)], args := [d1, d2, d3] }
  | _ => none }
def ChangeAddsWrongFalsely : Prop := changeAddsRow.holds Tryd.pinned (OpenSpec.ofChange changeAddsWrong)

/-- 'meetwaterlaw.ChangeNets': WHATEVER THE INPUT: true; the input reads as it did. -/
def changeNetsSpec : ChangeSpec := { name := "changeNets", fn := fun _ => fun
  | [d] => { results := [.lit (.bool true)], args := [d] }
  | _ => none }
def changeNetsRow : OpenClaim := { program := "ytelmlagolmabpaadoor", sum := "1f9b72079640a0971affbc9fde932d650627818ad933a397bcaea5583f6cf0f4", func := "meetwater/meetwaterlaw.ChangeNets", spec := "changeNets", inPlace := ["internal/bytealg.CountString", "internal/bytealg.IndexByteString", "internal/bytealg.IndexString", "internal/abi.NoEscape", "internal/bytealg.MakeNoZero"], unfollowed := true, recurses := true, named := ["internal/bytealg.MaxLen", "unicode/utf8.first", "unicode/utf8.acceptRanges"], apart := false, laid := [("unicode/utf8.acceptRanges", laid_unicode_utf8_acceptRanges), ("unicode/utf8.first", laid_unicode_utf8_first)] }
def ChangeNetsSaid : Prop := changeNetsRow.holds Tryd.pinned (OpenSpec.ofChange changeNetsSpec)

/-- ITS FALSE NEIGHBOUR: 'it returns false'. Refute it at one input. -/
def changeNetsWrong : ChangeSpec := { name := "changeNets", fn := fun _ => fun
  | [d] => { results := [.lit (.bool false)], args := [d] }
  | _ => none }
def ChangeNetsWrongFalsely : Prop := changeNetsRow.holds Tryd.pinned (OpenSpec.ofChange changeNetsWrong)

/-- 'meetwaterlaw.ChangeUndoes': WHATEVER THE INPUT: true; the input reads as it did. -/
def changeUndoesSpec : ChangeSpec := { name := "changeUndoes", fn := fun _ => fun
  | [d1, d2] => { results := [.lit (.bool true)], args := [d1, d2] }
  | _ => none }
def changeUndoesRow : OpenClaim := { program := "ytelmlagolmabpaadoor", sum := "1f9b72079640a0971affbc9fde932d650627818ad933a397bcaea5583f6cf0f4", func := "meetwater/meetwaterlaw.ChangeUndoes", spec := "changeUndoes", inPlace := ["internal/bytealg.CountString", "internal/bytealg.IndexByteString", "internal/bytealg.IndexString", "internal/abi.NoEscape", "internal/bytealg.MakeNoZero"], unfollowed := true, recurses := true, named := ["internal/bytealg.MaxLen", "unicode/utf8.first", "unicode/utf8.acceptRanges"], apart := false, laid := [("unicode/utf8.acceptRanges", laid_unicode_utf8_acceptRanges), ("unicode/utf8.first", laid_unicode_utf8_first)] }
def ChangeUndoesSaid : Prop := changeUndoesRow.holds Tryd.pinned (OpenSpec.ofChange changeUndoesSpec)

/-- ITS FALSE NEIGHBOUR: 'it returns false'. Refute it at one input. -/
def changeUndoesWrong : ChangeSpec := { name := "changeUndoes", fn := fun _ => fun
  | [d1, d2] => { results := [.lit (.bool false)], args := [d1, d2] }
  | _ => none }
def ChangeUndoesWrongFalsely : Prop := changeUndoesRow.holds Tryd.pinned (OpenSpec.ofChange changeUndoesWrong)

/- THE SECOND FORM. 'bulk': how many values and letters a reading holds, each counted each time it is reached (what is shared counts as often as it is met; a slice's spare places count too). A statement '..UptoSaid' is the law's where the arguments, and the package variables that the reading takes, are together of bulk at most 1048576: NARROWER than '..Said'. Prove '..Said' where nothing that the law and all that it calls make is longer than what came in: it says more and counts as full. Else prove '..UptoSaid'. A law counts once. -/
mutual
def uptoBulk {H : Type} : DataW H → Nat
  | .lit (.string bytes) => bytes.length + 1
  | .lit _ => 1
  | .nil => 1
  | .ptr d => uptoBulk d + 1
  | .slice elems spare => uptoBulkAll elems + uptoBulkAll spare + 1
  | .agg parts => uptoBulkAll parts + 1
  | .iface _ d => uptoBulk d + 1
  | .map entries => uptoBulkEntries entries + 1
  | .held _ => 1
def uptoBulkAll {H : Type} : List (DataW H) → Nat
  | [] => 0
  | d :: r => uptoBulk d + uptoBulkAll r
def uptoBulkEntries {H : Type} : List (Lit × DataW H) → Nat
  | [] => 0
  | x :: r => uptoBulkEntry x + uptoBulkEntries r
def uptoBulkEntry {H : Type} : Lit × DataW H → Nat
  | (.string bytes, d) => bytes.length + uptoBulk d + 1
  | (_, d) => uptoBulk d + 1
 end
def uptoSmall : (H : Type) → List (DataW H) → Bool := fun _ ds => decide (uptoBulkAll ds ≤ 1048576)
def OpenSpec.upto (s : _root_.Go.ChangeSpec) : _root_.Go.OpenSpec := { _root_.Go.OpenSpec.ofChange s with cond := some uptoSmall }

/-- 'meetwaterlaw.PlanChecks', WHERE WHAT IT READS IS OF BULK AT MOST 1048576: true; the input reads as it did. -/
def planChecksUptoRow : OpenClaim := { program := "ytelmlagolmabpaadoor", sum := "1f9b72079640a0971affbc9fde932d650627818ad933a397bcaea5583f6cf0f4", func := "meetwater/meetwaterlaw.PlanChecks", spec := "planChecks", inPlace := ["internal/bytealg.CountString", "internal/bytealg.IndexByteString", "internal/bytealg.IndexString", "internal/abi.NoEscape", "internal/bytealg.MakeNoZero"], unfollowed := true, recurses := true, named := ["internal/bytealg.MaxLen", "unicode/utf8.first", "unicode/utf8.acceptRanges"], apart := false, laid := [("unicode/utf8.acceptRanges", laid_unicode_utf8_acceptRanges), ("unicode/utf8.first", laid_unicode_utf8_first)], narrowed := true }
def PlanChecksUptoSaid : Prop := planChecksUptoRow.holds Tryd.pinned (OpenSpec.upto planChecksSpec)

/-- 'meetwaterlaw.PlanRows', WHERE WHAT IT READS IS OF BULK AT MOST 1048576: true; the input reads as it did. -/
def planRowsUptoRow : OpenClaim := { program := "ytelmlagolmabpaadoor", sum := "1f9b72079640a0971affbc9fde932d650627818ad933a397bcaea5583f6cf0f4", func := "meetwater/meetwaterlaw.PlanRows", spec := "planRows", inPlace := ["internal/bytealg.CountString", "internal/bytealg.IndexByteString", "internal/bytealg.IndexString", "internal/abi.NoEscape", "internal/bytealg.MakeNoZero"], unfollowed := true, recurses := true, named := ["internal/bytealg.MaxLen", "unicode/utf8.first", "unicode/utf8.acceptRanges"], apart := false, laid := [("unicode/utf8.acceptRanges", laid_unicode_utf8_acceptRanges), ("unicode/utf8.first", laid_unicode_utf8_first)], narrowed := true }
def PlanRowsUptoSaid : Prop := planRowsUptoRow.holds Tryd.pinned (OpenSpec.upto planRowsSpec)

/-- 'meetwaterlaw.PlanGone', WHERE WHAT IT READS IS OF BULK AT MOST 1048576: true; the input reads as it did. -/
def planGoneUptoRow : OpenClaim := { program := "ytelmlagolmabpaadoor", sum := "1f9b72079640a0971affbc9fde932d650627818ad933a397bcaea5583f6cf0f4", func := "meetwater/meetwaterlaw.PlanGone", spec := "planGone", inPlace := ["internal/bytealg.CountString", "internal/bytealg.IndexByteString", "internal/bytealg.IndexString", "internal/abi.NoEscape", "internal/bytealg.MakeNoZero"], unfollowed := true, recurses := true, named := ["internal/bytealg.MaxLen", "unicode/utf8.first", "unicode/utf8.acceptRanges"], apart := false, laid := [("unicode/utf8.acceptRanges", laid_unicode_utf8_acceptRanges), ("unicode/utf8.first", laid_unicode_utf8_first)], narrowed := true }
def PlanGoneUptoSaid : Prop := planGoneUptoRow.holds Tryd.pinned (OpenSpec.upto planGoneSpec)

/-- 'meetwaterlaw.PlanPasses', WHERE WHAT IT READS IS OF BULK AT MOST 1048576: true; the input reads as it did. -/
def planPassesUptoRow : OpenClaim := { program := "ytelmlagolmabpaadoor", sum := "1f9b72079640a0971affbc9fde932d650627818ad933a397bcaea5583f6cf0f4", func := "meetwater/meetwaterlaw.PlanPasses", spec := "planPasses", inPlace := ["internal/bytealg.CountString", "internal/bytealg.IndexByteString", "internal/bytealg.IndexString", "internal/abi.NoEscape", "internal/bytealg.MakeNoZero"], unfollowed := true, recurses := true, named := ["internal/bytealg.MaxLen", "unicode/utf8.first", "unicode/utf8.acceptRanges"], apart := false, laid := [("unicode/utf8.acceptRanges", laid_unicode_utf8_acceptRanges), ("unicode/utf8.first", laid_unicode_utf8_first)], narrowed := true }
def PlanPassesUptoSaid : Prop := planPassesUptoRow.holds Tryd.pinned (OpenSpec.upto planPassesSpec)

/-- 'meetwaterlaw.ChangeFolds', WHERE WHAT IT READS IS OF BULK AT MOST 1048576: true; the input reads as it did. -/
def changeFoldsUptoRow : OpenClaim := { program := "ytelmlagolmabpaadoor", sum := "1f9b72079640a0971affbc9fde932d650627818ad933a397bcaea5583f6cf0f4", func := "meetwater/meetwaterlaw.ChangeFolds", spec := "changeFolds", inPlace := ["internal/bytealg.CountString", "internal/bytealg.IndexByteString", "internal/bytealg.IndexString", "internal/abi.NoEscape", "internal/bytealg.MakeNoZero"], unfollowed := true, recurses := true, named := ["internal/bytealg.MaxLen", "unicode/utf8.first", "unicode/utf8.acceptRanges"], apart := false, laid := [("unicode/utf8.acceptRanges", laid_unicode_utf8_acceptRanges), ("unicode/utf8.first", laid_unicode_utf8_first)], narrowed := true }
def ChangeFoldsUptoSaid : Prop := changeFoldsUptoRow.holds Tryd.pinned (OpenSpec.upto changeFoldsSpec)

/-- 'meetwaterlaw.ChangeCuts', WHERE WHAT IT READS IS OF BULK AT MOST 1048576: true; the input reads as it did. -/
def changeCutsUptoRow : OpenClaim := { program := "ytelmlagolmabpaadoor", sum := "1f9b72079640a0971affbc9fde932d650627818ad933a397bcaea5583f6cf0f4", func := "meetwater/meetwaterlaw.ChangeCuts", spec := "changeCuts", inPlace := ["internal/bytealg.CountString", "internal/bytealg.IndexByteString", "internal/bytealg.IndexString", "internal/abi.NoEscape", "internal/bytealg.MakeNoZero"], unfollowed := true, recurses := true, named := ["internal/bytealg.MaxLen", "unicode/utf8.first", "unicode/utf8.acceptRanges"], apart := false, laid := [("unicode/utf8.acceptRanges", laid_unicode_utf8_acceptRanges), ("unicode/utf8.first", laid_unicode_utf8_first)], narrowed := true }
def ChangeCutsUptoSaid : Prop := changeCutsUptoRow.holds Tryd.pinned (OpenSpec.upto changeCutsSpec)

/-- 'meetwaterlaw.ChangeDiffs', WHERE WHAT IT READS IS OF BULK AT MOST 1048576: true; the input reads as it did. -/
def changeDiffsUptoRow : OpenClaim := { program := "ytelmlagolmabpaadoor", sum := "1f9b72079640a0971affbc9fde932d650627818ad933a397bcaea5583f6cf0f4", func := "meetwater/meetwaterlaw.ChangeDiffs", spec := "changeDiffs", inPlace := ["internal/bytealg.CountString", "internal/bytealg.IndexByteString", "internal/bytealg.IndexString", "internal/abi.NoEscape", "internal/bytealg.MakeNoZero"], unfollowed := true, recurses := true, named := ["internal/bytealg.MaxLen", "unicode/utf8.first", "unicode/utf8.acceptRanges"], apart := false, laid := [("unicode/utf8.acceptRanges", laid_unicode_utf8_acceptRanges), ("unicode/utf8.first", laid_unicode_utf8_first)], narrowed := true }
def ChangeDiffsUptoSaid : Prop := changeDiffsUptoRow.holds Tryd.pinned (OpenSpec.upto changeDiffsSpec)

/-- 'meetwaterlaw.ChangeMakes', WHERE WHAT IT READS IS OF BULK AT MOST 1048576: true; the input reads as it did. -/
def changeMakesUptoRow : OpenClaim := { program := "ytelmlagolmabpaadoor", sum := "1f9b72079640a0971affbc9fde932d650627818ad933a397bcaea5583f6cf0f4", func := "meetwater/meetwaterlaw.ChangeMakes", spec := "changeMakes", inPlace := ["internal/bytealg.CountString", "internal/bytealg.IndexByteString", "internal/bytealg.IndexString", "internal/abi.NoEscape", "internal/bytealg.MakeNoZero"], unfollowed := true, recurses := true, named := ["internal/bytealg.MaxLen", "unicode/utf8.first", "unicode/utf8.acceptRanges"], apart := false, laid := [("unicode/utf8.acceptRanges", laid_unicode_utf8_acceptRanges), ("unicode/utf8.first", laid_unicode_utf8_first)], narrowed := true }
def ChangeMakesUptoSaid : Prop := changeMakesUptoRow.holds Tryd.pinned (OpenSpec.upto changeMakesSpec)

/-- 'meetwaterlaw.ChangeAdds', WHERE WHAT IT READS IS OF BULK AT MOST 1048576: true; the input reads as it did. -/
def changeAddsUptoRow : OpenClaim := { program := "ytelmlagolmabpaadoor", sum := "1f9b72079640a0971affbc9fde932d650627818ad933a397bcaea5583f6cf0f4", func := "meetwater/meetwaterlaw.ChangeAdds", spec := "changeAdds", inPlace := ["internal/bytealg.CountString", "internal/bytealg.IndexByteString", "internal/bytealg.IndexString", "internal/abi.NoEscape", "internal/bytealg.MakeNoZero"], unfollowed := true, recurses := true, named := ["internal/bytealg.MaxLen", "unicode/utf8.first", "unicode/utf8.acceptRanges"], apart := false, laid := [("unicode/utf8.acceptRanges", laid_unicode_utf8_acceptRanges), ("unicode/utf8.first", laid_unicode_utf8_first)], narrowed := true }
def ChangeAddsUptoSaid : Prop := changeAddsUptoRow.holds Tryd.pinned (OpenSpec.upto changeAddsSpec)

/-- 'meetwaterlaw.ChangeNets', WHERE WHAT IT READS IS OF BULK AT MOST 1048576: true; the input reads as it did. -/
def changeNetsUptoRow : OpenClaim := { program := "ytelmlagolmabpaadoor", sum := "1f9b72079640a0971affbc9fde932d650627818ad933a397bcaea5583f6cf0f4", func := "meetwater/meetwaterlaw.ChangeNets", spec := "changeNets", inPlace := ["internal/bytealg.CountString", "internal/bytealg.IndexByteString", "internal/bytealg.IndexString", "internal/abi.NoEscape", "internal/bytealg.MakeNoZero"], unfollowed := true, recurses := true, named := ["internal/bytealg.MaxLen", "unicode/utf8.first", "unicode/utf8.acceptRanges"], apart := false, laid := [("unicode/utf8.acceptRanges", laid_unicode_utf8_acceptRanges), ("unicode/utf8.first", laid_unicode_utf8_first)], narrowed := true }
def ChangeNetsUptoSaid : Prop := changeNetsUptoRow.holds Tryd.pinned (OpenSpec.upto changeNetsSpec)

/-- 'meetwaterlaw.ChangeUndoes', WHERE WHAT IT READS IS OF BULK AT MOST 1048576: true; the input reads as it did. -/
def changeUndoesUptoRow : OpenClaim := { program := "ytelmlagolmabpaadoor", sum := "1f9b72079640a0971affbc9fde932d650627818ad933a397bcaea5583f6cf0f4", func := "meetwater/meetwaterlaw.ChangeUndoes", spec := "changeUndoes", inPlace := ["internal/bytealg.CountString", "internal/bytealg.IndexByteString", "internal/bytealg.IndexString", "internal/abi.NoEscape", "internal/bytealg.MakeNoZero"], unfollowed := true, recurses := true, named := ["internal/bytealg.MaxLen", "unicode/utf8.first", "unicode/utf8.acceptRanges"], apart := false, laid := [("unicode/utf8.acceptRanges", laid_unicode_utf8_acceptRanges), ("unicode/utf8.first", laid_unicode_utf8_first)], narrowed := true }
def ChangeUndoesUptoSaid : Prop := changeUndoesUptoRow.holds Tryd.pinned (OpenSpec.upto changeUndoesSpec)

end Rows
end Go.Proofs.YtelmlagolmabpaaDoor
