/-
  NARROWER THAN 'FOR EVERY INPUT', by the rows' own cells (each row's printed sentence says how): BatchJoins: laid · BatchGroups: laid · BatchTurns: laid · BatchAll: laid · BatchOrder: laid · BatchKeeps: laid · GroupAlways: laid.
  DERIVED. THE GIVEN ROWS OF THIS SEAT. 7 by the template 'for every input the law returns true; each argument reads behind the call as it read before'; 0 by the template 'total and deterministic' (their statements: YtjhbeecmdgglgaaGreatDoorTotals.lean).
  GIVEN WITH THE SEED: the statements are not yours to turn. If you find one false, say at which input.
  Laid BY PROGRAM, IN A SANDBOX (cutbox-rows.mjs): the forced cells as the released guide's own fill.sh prints them over the translation b6a92f5149d08a89… (all of the seat's roots in one cut). By AI agents, Wed Nov 11 2026. No macro, syntax, notation, axiom, sorry.
-/
import Derived.Test.YtjhbeecmdgglgaaGreatDoorChecked
import GoSem.PinnedTables
import GoSem.Claim
import GoSem.ClaimJoined
import GoSem.ClaimMapViews
import Derived.JoinedTies
import Derived.KernelRfl
namespace Go.Proofs.YtjhbeecmdgglgaaGreatDoor
/- THE CELL 'sum', in the pinned program and in every row, IS THE sha256 OF THE DUMP (.gsa) THAT YtjhbeecmdgglgaaGreatDoorProg.lean LOADS. Nothing in Lean hashes anything: it is a label: what it is worth is what the hold of that sum in a sandbox is worth. -/
noncomputable def Tryz.pinned : Pinned := { name := "ytjhbeecmdgglgaagreatdoor", sum := "b6a92f5149d08a89069d57dfe734b792f4a99ac8fab2d83be1749a8c4766c5dd", checked := Tryz.checked }
namespace Rows
def none {H : Type} : Left H := { results := [], args := [] }

/- WHAT THE LISTED PACKAGE-LEVEL VARIABLES READ AS WHEN THE CALL BEGINS. Each datum BY PROGRAM (the guide's laid-datum.mjs) off the statement by which the dump's own 'gosem.cut.vars' lays the variable. In a bare row this is a premise. The card (YtjhbeecmdgglgaaGreatDoorCards.lean) ties it to the program's text. -/
def laid_unicode_utf8_acceptRanges {H : Type} : DataW H := .agg [.agg [.lit (.int .u8 128), .lit (.int .u8 191)], .agg [.lit (.int .u8 160), .lit (.int .u8 191)], .agg [.lit (.int .u8 128), .lit (.int .u8 159)], .agg [.lit (.int .u8 144), .lit (.int .u8 191)], .agg [.lit (.int .u8 128), .lit (.int .u8 143)], .agg [.lit (.int .u8 0), .lit (.int .u8 0)], .agg [.lit (.int .u8 0), .lit (.int .u8 0)], .agg [.lit (.int .u8 0), .lit (.int .u8 0)], .agg [.lit (.int .u8 0), .lit (.int .u8 0)], .agg [.lit (.int .u8 0), .lit (.int .u8 0)], .agg [.lit (.int .u8 0), .lit (.int .u8 0)], .agg [.lit (.int .u8 0), .lit (.int .u8 0)], .agg [.lit (.int .u8 0), .lit (.int .u8 0)], .agg [.lit (.int .u8 0), .lit (.int .u8 0)], .agg [.lit (.int .u8 0), .lit (.int .u8 0)], .agg [.lit (.int .u8 0), .lit (.int .u8 0)]]
/-- One of Go's own tables, pinned by name: the form's constant. -/
def laid_unicode_utf8_first : DataW Unit := Go.Pinned.utf8First

/-- 'meetwaterlaw.BatchJoins': WHATEVER THE INPUT: true; the input reads as it did. -/
def batchJoinsSpec : ChangeSpec := { name := "batchJoins", fn := fun _ => fun
  | [d1, d2, d3] => { results := [.lit (.bool true)], args := [d1, d2, d3] }
  | _ => none }
def batchJoinsRow : OpenClaim := { program := "ytjhbeecmdgglgaagreatdoor", sum := "b6a92f5149d08a89069d57dfe734b792f4a99ac8fab2d83be1749a8c4766c5dd", func := "meetwater/meetwaterlaw.BatchJoins", spec := "batchJoins", inPlace := ["internal/bytealg.CountString", "internal/bytealg.IndexByteString", "internal/bytealg.IndexString", "internal/abi.NoEscape", "internal/bytealg.MakeNoZero", "internal/bytealg.abigen_runtime_cmpstring"], unfollowed := true, recurses := true, named := ["internal/bytealg.MaxLen", "unicode/utf8.first", "unicode/utf8.acceptRanges"], apart := false, laid := [("unicode/utf8.acceptRanges", laid_unicode_utf8_acceptRanges), ("unicode/utf8.first", laid_unicode_utf8_first)] }
def BatchJoinsSaid : Prop := batchJoinsRow.holds Tryz.pinned (OpenSpec.ofChange batchJoinsSpec)

/-- ITS FALSE NEIGHBOUR: 'it returns false'. Refute it at one input. -/
def batchJoinsWrong : ChangeSpec := { name := "batchJoins", fn := fun _ => fun
  | [d1, d2, d3] => { results := [.lit (.bool false)], args := [d1, d2, d3] }
  | _ => none }
def BatchJoinsWrongFalsely : Prop := batchJoinsRow.holds Tryz.pinned (OpenSpec.ofChange batchJoinsWrong)

/-- 'meetwaterlaw.BatchGroups': WHATEVER THE INPUT: true; the input reads as it did. -/
def batchGroupsSpec : ChangeSpec := { name := "batchGroups", fn := fun _ => fun
  | [d1, d2] => { results := [.lit (.bool true)], args := [d1, d2] }
  | _ => none }
def batchGroupsRow : OpenClaim := { program := "ytjhbeecmdgglgaagreatdoor", sum := "b6a92f5149d08a89069d57dfe734b792f4a99ac8fab2d83be1749a8c4766c5dd", func := "meetwater/meetwaterlaw.BatchGroups", spec := "batchGroups", inPlace := ["internal/bytealg.CountString", "internal/bytealg.IndexByteString", "internal/bytealg.IndexString", "internal/abi.NoEscape", "internal/bytealg.MakeNoZero", "internal/bytealg.abigen_runtime_cmpstring"], unfollowed := true, recurses := true, named := ["internal/bytealg.MaxLen", "unicode/utf8.first", "unicode/utf8.acceptRanges"], apart := false, laid := [("unicode/utf8.acceptRanges", laid_unicode_utf8_acceptRanges), ("unicode/utf8.first", laid_unicode_utf8_first)] }
def BatchGroupsSaid : Prop := batchGroupsRow.holds Tryz.pinned (OpenSpec.ofChange batchGroupsSpec)

/-- ITS FALSE NEIGHBOUR: 'it returns false'. Refute it at one input. -/
def batchGroupsWrong : ChangeSpec := { name := "batchGroups", fn := fun _ => fun
  | [d1, d2] => { results := [.lit (.bool false)], args := [d1, d2] }
  | _ => none }
def BatchGroupsWrongFalsely : Prop := batchGroupsRow.holds Tryz.pinned (OpenSpec.ofChange batchGroupsWrong)

/-- 'meetwaterlaw.BatchTurns': WHATEVER THE INPUT: true; the input reads as it did. -/
def batchTurnsSpec : ChangeSpec := { name := "batchTurns", fn := fun _ => fun
  | [d1, d2, d3] => { results := [.lit (.bool true)], args := [d1, d2, d3] }
  | _ => none }
def batchTurnsRow : OpenClaim := { program := "ytjhbeecmdgglgaagreatdoor", sum := "b6a92f5149d08a89069d57dfe734b792f4a99ac8fab2d83be1749a8c4766c5dd", func := "meetwater/meetwaterlaw.BatchTurns", spec := "batchTurns", inPlace := ["internal/bytealg.CountString", "internal/bytealg.IndexByteString", "internal/bytealg.IndexString", "internal/abi.NoEscape", "internal/bytealg.MakeNoZero", "internal/bytealg.abigen_runtime_cmpstring"], unfollowed := true, recurses := true, named := ["internal/bytealg.MaxLen", "unicode/utf8.first", "unicode/utf8.acceptRanges"], apart := false, laid := [("unicode/utf8.acceptRanges", laid_unicode_utf8_acceptRanges), ("unicode/utf8.first", laid_unicode_utf8_first)] }
def BatchTurnsSaid : Prop := batchTurnsRow.holds Tryz.pinned (OpenSpec.ofChange batchTurnsSpec)

/-- ITS FALSE NEIGHBOUR: 'it returns false'. Refute it at one input. -/
def batchTurnsWrong : ChangeSpec := { name := "batchTurns", fn := fun _ => fun
  | [d1, d2, d3] => { results := [.lit (.bool false)], args := [d1, d2, d3] }
  | _ => none }
def BatchTurnsWrongFalsely : Prop := batchTurnsRow.holds Tryz.pinned (OpenSpec.ofChange batchTurnsWrong)

/-- 'meetwaterlaw.BatchAll': WHATEVER THE INPUT: true; the input reads as it did. -/
def batchAllSpec : ChangeSpec := { name := "batchAll", fn := fun _ => fun
  | [d1, d2, d3] => { results := [.lit (.bool true)], args := [d1, d2, d3] }
  | _ => none }
def batchAllRow : OpenClaim := { program := "ytjhbeecmdgglgaagreatdoor", sum := "b6a92f5149d08a89069d57dfe734b792f4a99ac8fab2d83be1749a8c4766c5dd", func := "meetwater/meetwaterlaw.BatchAll", spec := "batchAll", inPlace := ["internal/bytealg.CountString", "internal/bytealg.IndexByteString", "internal/bytealg.IndexString", "internal/abi.NoEscape", "internal/bytealg.MakeNoZero", "internal/bytealg.abigen_runtime_cmpstring"], unfollowed := true, recurses := true, named := ["internal/bytealg.MaxLen", "unicode/utf8.first", "unicode/utf8.acceptRanges"], apart := false, laid := [("unicode/utf8.acceptRanges", laid_unicode_utf8_acceptRanges), ("unicode/utf8.first", laid_unicode_utf8_first)] }
def BatchAllSaid : Prop := batchAllRow.holds Tryz.pinned (OpenSpec.ofChange batchAllSpec)

/-- ITS FALSE NEIGHBOUR: 'it returns false'. Refute it at one input. -/
def batchAllWrong : ChangeSpec := { name := "batchAll", fn := fun _ => fun
  | [d1, d2, d3] => { results := [.lit (.bool false)], args := [d1, d2, d3] }
  | _ => none }
def BatchAllWrongFalsely : Prop := batchAllRow.holds Tryz.pinned (OpenSpec.ofChange batchAllWrong)

/-- 'meetwaterlaw.BatchOrder': WHATEVER THE INPUT: true; the input reads as it did. -/
def batchOrderSpec : ChangeSpec := { name := "batchOrder", fn := fun _ => fun
  | [d1, d2, d3, d4, d5] => { results := [.lit (.bool true)], args := [d1, d2, d3, d4, d5] }
  | _ => none }
def batchOrderRow : OpenClaim := { program := "ytjhbeecmdgglgaagreatdoor", sum := "b6a92f5149d08a89069d57dfe734b792f4a99ac8fab2d83be1749a8c4766c5dd", func := "meetwater/meetwaterlaw.BatchOrder", spec := "batchOrder", inPlace := ["internal/bytealg.CountString", "internal/bytealg.IndexByteString", "internal/bytealg.IndexString", "internal/abi.NoEscape", "internal/bytealg.MakeNoZero", "internal/bytealg.abigen_runtime_cmpstring"], unfollowed := true, recurses := true, named := ["internal/bytealg.MaxLen", "unicode/utf8.first", "unicode/utf8.acceptRanges"], apart := false, laid := [("unicode/utf8.acceptRanges", laid_unicode_utf8_acceptRanges), ("unicode/utf8.first", laid_unicode_utf8_first)] }
def BatchOrderSaid : Prop := batchOrderRow.holds Tryz.pinned (OpenSpec.ofChange batchOrderSpec)

/-- ITS FALSE NEIGHBOUR: 'it returns false'. Refute it at one input. -/
def batchOrderWrong : ChangeSpec := { name := "batchOrder", fn := fun _ => fun
  | [d1, d2, d3, d4, d5] => { results := [.lit (.bool false)], args := [d1, d2, d3, d4, d5] }
  | _ => none }
def BatchOrderWrongFalsely : Prop := batchOrderRow.holds Tryz.pinned (OpenSpec.ofChange batchOrderWrong)

/-- 'meetwaterlaw.BatchKeeps': WHATEVER THE INPUT: true; the input reads as it did. -/
def batchKeepsSpec : ChangeSpec := { name := "batchKeeps", fn := fun _ => fun
  | [d1, d2, d3] => { results := [.lit (.bool true)], args := [d1, d2, d3] }
  | _ => none }
def batchKeepsRow : OpenClaim := { program := "ytjhbeecmdgglgaagreatdoor", sum := "b6a92f5149d08a89069d57dfe734b792f4a99ac8fab2d83be1749a8c4766c5dd", func := "meetwater/meetwaterlaw.BatchKeeps", spec := "batchKeeps", inPlace := ["internal/bytealg.CountString", "internal/bytealg.IndexByteString", "internal/bytealg.IndexString", "internal/abi.NoEscape", "internal/bytealg.MakeNoZero", "internal/bytealg.abigen_runtime_cmpstring"], unfollowed := true, recurses := true, named := ["internal/bytealg.MaxLen", "unicode/utf8.first", "unicode/utf8.acceptRanges"], apart := false, laid := [("unicode/utf8.acceptRanges", laid_unicode_utf8_acceptRanges), ("unicode/utf8.first", laid_unicode_utf8_first)] }
def BatchKeepsSaid : Prop := batchKeepsRow.holds Tryz.pinned (OpenSpec.ofChange batchKeepsSpec)

/-- ITS FALSE NEIGHBOUR: 'it returns false'. Refute it at one input. -/
def batchKeepsWrong : ChangeSpec := { name := "batchKeeps", fn := fun _ => fun
  | [d1, d2, d3] => { results := [.lit (.bool false)], args := [d1, d2, d3] }
  | _ => none }
def BatchKeepsWrongFalsely : Prop := batchKeepsRow.holds Tryz.pinned (OpenSpec.ofChange batchKeepsWrong)

/-- 'meetwaterlaw.GroupAlways': WHATEVER THE INPUT: true; the input reads as it did. -/
def groupAlwaysSpec : ChangeSpec := { name := "groupAlways", fn := fun _ => fun
  | [d1, d2, d3] => { results := [.lit (.bool true)], args := [d1, d2, d3] }
  | _ => none }
def groupAlwaysRow : OpenClaim := { program := "ytjhbeecmdgglgaagreatdoor", sum := "b6a92f5149d08a89069d57dfe734b792f4a99ac8fab2d83be1749a8c4766c5dd", func := "meetwater/meetwaterlaw.GroupAlways", spec := "groupAlways", inPlace := ["internal/bytealg.CountString", "internal/bytealg.IndexByteString", "internal/bytealg.IndexString", "internal/abi.NoEscape", "internal/bytealg.MakeNoZero", "internal/bytealg.abigen_runtime_cmpstring", "slices.overlaps[meetwater/api.Tally]"], unfollowed := true, recurses := true, named := ["internal/bytealg.MaxLen", "unicode/utf8.first", "unicode/utf8.acceptRanges"], apart := false, laid := [("unicode/utf8.acceptRanges", laid_unicode_utf8_acceptRanges), ("unicode/utf8.first", laid_unicode_utf8_first)] }
def GroupAlwaysSaid : Prop := groupAlwaysRow.holds Tryz.pinned (OpenSpec.ofChange groupAlwaysSpec)

/-- ITS FALSE NEIGHBOUR: 'it returns false'. Refute it at one input. -/
def groupAlwaysWrong : ChangeSpec := { name := "groupAlways", fn := fun _ => fun
  | [d1, d2, d3] => { results := [.lit (.bool false)], args := [d1, d2, d3] }
  | _ => none }
def GroupAlwaysWrongFalsely : Prop := groupAlwaysRow.holds Tryz.pinned (OpenSpec.ofChange groupAlwaysWrong)

/- THE SECOND FORM. 'bulk': how many values and letters a reading holds, each counted each time it is reached (what is shared counts as often as it is met; a slice's spare places count too). A statement '..UptoSaid' is the law's where the arguments, and the package variables that the reading takes, are together of bulk at most 1048576: NARROWER than '..Said'. Prove '..Said' where nothing that the law and all that it calls make is longer than what came in: it says more and counts as full. Else prove '..UptoSaid'. A law counts once. -/
mutual
def uptoBulk {H : Type} : DataW H → Nat
  | .lit (.string bytes) => bytes.length + 1
  | .lit _ => 1
  | .nil => 1
  | .ptr d => uptoBulk d + 1
  | .slice elems spare => uptoBulkAll elems + uptoBulkAll spare + 1
  | .agg parts => uptoBulkAll parts + 1
  | .iface _ d => uptoBulk d + 1
  | .map entries => uptoBulkEntries entries + 1
  | .held _ => 1
def uptoBulkAll {H : Type} : List (DataW H) → Nat
  | [] => 0
  | d :: r => uptoBulk d + uptoBulkAll r
def uptoBulkEntries {H : Type} : List (Lit × DataW H) → Nat
  | [] => 0
  | x :: r => uptoBulkEntry x + uptoBulkEntries r
def uptoBulkEntry {H : Type} : Lit × DataW H → Nat
  | (.string bytes, d) => bytes.length + uptoBulk d + 1
  | (_, d) => uptoBulk d + 1
 end
def uptoSmall : (H : Type) → List (DataW H) → Bool := fun _ ds => decide (uptoBulkAll ds ≤ 1048576)
def OpenSpec.upto (s : _root_.Go.ChangeSpec) : _root_.Go.OpenSpec := { _root_.Go.OpenSpec.ofChange s with cond := some uptoSmall }

/-- 'meetwaterlaw.BatchJoins', WHERE WHAT IT READS IS OF BULK AT MOST 1048576: true; the input reads as it did. -/
def batchJoinsUptoRow : OpenClaim := { program := "ytjhbeecmdgglgaagreatdoor", sum := "b6a92f5149d08a89069d57dfe734b792f4a99ac8fab2d83be1749a8c4766c5dd", func := "meetwater/meetwaterlaw.BatchJoins", spec := "batchJoins", inPlace := ["internal/bytealg.CountString", "internal/bytealg.IndexByteString", "internal/bytealg.IndexString", "internal/abi.NoEscape", "internal/bytealg.MakeNoZero", "internal/bytealg.abigen_runtime_cmpstring"], unfollowed := true, recurses := true, named := ["internal/bytealg.MaxLen", "unicode/utf8.first", "unicode/utf8.acceptRanges"], apart := false, laid := [("unicode/utf8.acceptRanges", laid_unicode_utf8_acceptRanges), ("unicode/utf8.first", laid_unicode_utf8_first)], narrowed := true }
def BatchJoinsUptoSaid : Prop := batchJoinsUptoRow.holds Tryz.pinned (OpenSpec.upto batchJoinsSpec)

/-- 'meetwaterlaw.BatchGroups', WHERE WHAT IT READS IS OF BULK AT MOST 1048576: true; the input reads as it did. -/
def batchGroupsUptoRow : OpenClaim := { program := "ytjhbeecmdgglgaagreatdoor", sum := "b6a92f5149d08a89069d57dfe734b792f4a99ac8fab2d83be1749a8c4766c5dd", func := "meetwater/meetwaterlaw.BatchGroups", spec := "batchGroups", inPlace := ["internal/bytealg.CountString", "internal/bytealg.IndexByteString", "internal/bytealg.IndexString", "internal/abi.NoEscape", "internal/bytealg.MakeNoZero", "internal/bytealg.abigen_runtime_cmpstring"], unfollowed := true, recurses := true, named := ["internal/bytealg.MaxLen", "unicode/utf8.first", "unicode/utf8.acceptRanges"], apart := false, laid := [("unicode/utf8.acceptRanges", laid_unicode_utf8_acceptRanges), ("unicode/utf8.first", laid_unicode_utf8_first)], narrowed := true }
def BatchGroupsUptoSaid : Prop := batchGroupsUptoRow.holds Tryz.pinned (OpenSpec.upto batchGroupsSpec)

/-- 'meetwaterlaw.BatchTurns', WHERE WHAT IT READS IS OF BULK AT MOST 1048576: true; the input reads as it did. -/
def batchTurnsUptoRow : OpenClaim := { program := "ytjhbeecmdgglgaagreatdoor", sum := "b6a92f5149d08a89069d57dfe734b792f4a99ac8fab2d83be1749a8c4766c5dd", func := "meetwater/meetwaterlaw.BatchTurns", spec := "batchTurns", inPlace := ["internal/bytealg.CountString", "internal/bytealg.IndexByteString", "internal/bytealg.IndexString", "internal/abi.NoEscape", "internal/bytealg.MakeNoZero", "internal/bytealg.abigen_runtime_cmpstring"], unfollowed := true, recurses := true, named := ["internal/bytealg.MaxLen", "unicode/utf8.first", "unicode/utf8.acceptRanges"], apart := false, laid := [("unicode/utf8.acceptRanges", laid_unicode_utf8_acceptRanges), ("unicode/utf8.first", laid_unicode_utf8_first)], narrowed := true }
def BatchTurnsUptoSaid : Prop := batchTurnsUptoRow.holds Tryz.pinned (OpenSpec.upto batchTurnsSpec)

/-- 'meetwaterlaw.BatchAll', WHERE WHAT IT READS IS OF BULK AT MOST 1048576: true; the input reads as it did. -/
def batchAllUptoRow : OpenClaim := { program := "ytjhbeecmdgglgaagreatdoor", sum := "b6a92f5149d08a89069d57dfe734b792f4a99ac8fab2d83be1749a8c4766c5dd", func := "meetwater/meetwaterlaw.BatchAll", spec := "batchAll", inPlace := ["internal/bytealg.CountString", "internal/bytealg.IndexByteString", "internal/bytealg.IndexString", "internal/abi.NoEscape", "internal/bytealg.MakeNoZero", "internal/bytealg.abigen_runtime_cmpstring"], unfollowed := true, recurses := true, named := ["internal/bytealg.MaxLen", "unicode/utf8.first", "unicode/utf8.acceptRanges"], apart := false, laid := [("unicode/utf8.acceptRanges", laid_unicode_utf8_acceptRanges), ("unicode/utf8.first", laid_unicode_utf8_first)], narrowed := true }
def BatchAllUptoSaid : Prop := batchAllUptoRow.holds Tryz.pinned (OpenSpec.upto batchAllSpec)

/-- 'meetwaterlaw.BatchOrder', WHERE WHAT IT READS IS OF BULK AT MOST 1048576: true; the input reads as it did. -/
def batchOrderUptoRow : OpenClaim := { program := "ytjhbeecmdgglgaagreatdoor", sum := "b6a92f5149d08a89069d57dfe734b792f4a99ac8fab2d83be1749a8c4766c5dd", func := "meetwater/meetwaterlaw.BatchOrder", spec := "batchOrder", inPlace := ["internal/bytealg.CountString", "internal/bytealg.IndexByteString", "internal/bytealg.IndexString", "internal/abi.NoEscape", "internal/bytealg.MakeNoZero", "internal/bytealg.abigen_runtime_cmpstring"], unfollowed := true, recurses := true, named := ["internal/bytealg.MaxLen", "unicode/utf8.first", "unicode/utf8.acceptRanges"], apart := false, laid := [("unicode/utf8.acceptRanges", laid_unicode_utf8_acceptRanges), ("unicode/utf8.first", laid_unicode_utf8_first)], narrowed := true }
def BatchOrderUptoSaid : Prop := batchOrderUptoRow.holds Tryz.pinned (OpenSpec.upto batchOrderSpec)

/-- 'meetwaterlaw.BatchKeeps', WHERE WHAT IT READS IS OF BULK AT MOST 1048576: true; the input reads as it did. -/
def batchKeepsUptoRow : OpenClaim := { program := "ytjhbeecmdgglgaagreatdoor", sum := "b6a92f5149d08a89069d57dfe734b792f4a99ac8fab2d83be1749a8c4766c5dd", func := "meetwater/meetwaterlaw.BatchKeeps", spec := "batchKeeps", inPlace := ["internal/bytealg.CountString", "internal/bytealg.IndexByteString", "internal/bytealg.IndexString", "internal/abi.NoEscape", "internal/bytealg.MakeNoZero", "internal/bytealg.abigen_runtime_cmpstring"], unfollowed := true, recurses := true, named := ["internal/bytealg.MaxLen", "unicode/utf8.first", "unicode/utf8.acceptRanges"], apart := false, laid := [("unicode/utf8.acceptRanges", laid_unicode_utf8_acceptRanges), ("unicode/utf8.first", laid_unicode_utf8_first)], narrowed := true }
def BatchKeepsUptoSaid : Prop := batchKeepsUptoRow.holds Tryz.pinned (OpenSpec.upto batchKeepsSpec)

/-- 'meetwaterlaw.GroupAlways', WHERE WHAT IT READS IS OF BULK AT MOST 1048576: true; the input reads as it did. -/
def groupAlwaysUptoRow : OpenClaim := { program := "ytjhbeecmdgglgaagreatdoor", sum := "b6a92f5149d08a89069d57dfe734b792f4a99ac8fab2d83be1749a8c4766c5dd", func := "meetwater/meetwaterlaw.GroupAlways", spec := "groupAlways", inPlace := ["internal/bytealg.CountString", "internal/bytealg.IndexByteString", "internal/bytealg.IndexString", "internal/abi.NoEscape", "internal/bytealg.MakeNoZero", "internal/bytealg.abigen_runtime_cmpstring", "slices.overlaps[meetwater/api.Tally]"], unfollowed := true, recurses := true, named := ["internal/bytealg.MaxLen", "unicode/utf8.first", "unicode/utf8.acceptRanges"], apart := false, laid := [("unicode/utf8.acceptRanges", laid_unicode_utf8_acceptRanges), ("unicode/utf8.first", laid_unicode_utf8_first)], narrowed := true }
def GroupAlwaysUptoSaid : Prop := groupAlwaysUptoRow.holds Tryz.pinned (OpenSpec.upto groupAlwaysSpec)

end Rows
end Go.Proofs.YtjhbeecmdgglgaaGreatDoor
