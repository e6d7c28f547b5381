/-
  NARROWER THAN 'FOR EVERY INPUT', by the rows' own cells (each row's printed sentence says how): JoinChecks: laid · JoinSteps: laid · JoinPlays: laid · JoinOnly: laid · JoinLean: laid · JoinEnds: laid · JoinAlways: laid.
  DERIVED. THE GIVEN ROWS OF THIS SEAT. 7 by the template 'for every input the law returns true; each argument reads behind the call as it read before'; 0 by the template 'total and deterministic' (their statements: YtjodlngbiikgfaaGreatDoorTotals.lean).
  GIVEN WITH THE SEED: the statements are not yours to turn. If you find one false, say at which input.
  Laid BY PROGRAM, IN A SANDBOX (cutbox-rows.mjs): the forced cells as the released guide's own fill.sh prints them over the translation fa1e59d218b470b7… (all of the seat's roots in one cut). By AI agents, Wed Nov 11 2026. No macro, syntax, notation, axiom, sorry.
-/
import Derived.Test.YtjodlngbiikgfaaGreatDoorChecked
import GoSem.PinnedTables
import GoSem.Claim
import GoSem.ClaimJoined
import GoSem.ClaimMapViews
import Derived.JoinedTies
import Derived.KernelRfl
namespace Go.Proofs.YtjodlngbiikgfaaGreatDoor
/- THE CELL 'sum', in the pinned program and in every row, IS THE sha256 OF THE DUMP (.gsa) THAT YtjodlngbiikgfaaGreatDoorProg.lean LOADS. Nothing in Lean hashes anything: it is a label: what it is worth is what the hold of that sum in a sandbox is worth. -/
noncomputable def Tryz.pinned : Pinned := { name := "ytjodlngbiikgfaagreatdoor", sum := "fa1e59d218b470b742f999d4c89cb7c63028bfad73cb50a98ccfa02a6aa6e3d2", checked := Tryz.checked }
namespace Rows
def none {H : Type} : Left H := { results := [], args := [] }

/- WHAT THE LISTED PACKAGE-LEVEL VARIABLES READ AS WHEN THE CALL BEGINS. Each datum BY PROGRAM (the guide's laid-datum.mjs) off the statement by which the dump's own 'gosem.cut.vars' lays the variable. In a bare row this is a premise. The card (YtjodlngbiikgfaaGreatDoorCards.lean) ties it to the program's text. -/
def laid_unicode_utf8_acceptRanges {H : Type} : DataW H := .agg [.agg [.lit (.int .u8 128), .lit (.int .u8 191)], .agg [.lit (.int .u8 160), .lit (.int .u8 191)], .agg [.lit (.int .u8 128), .lit (.int .u8 159)], .agg [.lit (.int .u8 144), .lit (.int .u8 191)], .agg [.lit (.int .u8 128), .lit (.int .u8 143)], .agg [.lit (.int .u8 0), .lit (.int .u8 0)], .agg [.lit (.int .u8 0), .lit (.int .u8 0)], .agg [.lit (.int .u8 0), .lit (.int .u8 0)], .agg [.lit (.int .u8 0), .lit (.int .u8 0)], .agg [.lit (.int .u8 0), .lit (.int .u8 0)], .agg [.lit (.int .u8 0), .lit (.int .u8 0)], .agg [.lit (.int .u8 0), .lit (.int .u8 0)], .agg [.lit (.int .u8 0), .lit (.int .u8 0)], .agg [.lit (.int .u8 0), .lit (.int .u8 0)], .agg [.lit (.int .u8 0), .lit (.int .u8 0)], .agg [.lit (.int .u8 0), .lit (.int .u8 0)]]
/-- One of Go's own tables, pinned by name: the form's constant. -/
def laid_unicode_utf8_first : DataW Unit := Go.Pinned.utf8First

/-- 'meetwaterlaw.JoinChecks': WHATEVER THE INPUT: true; the input reads as it did. -/
def joinChecksSpec : ChangeSpec := { name := "joinChecks", fn := fun _ => fun
  | [d1, d2] => { results := [.lit (.bool true)], args := [d1, d2] }
  | _ => none }
def joinChecksRow : OpenClaim := { program := "ytjodlngbiikgfaagreatdoor", sum := "fa1e59d218b470b742f999d4c89cb7c63028bfad73cb50a98ccfa02a6aa6e3d2", func := "meetwater/meetwaterlaw.JoinChecks", spec := "joinChecks", inPlace := ["internal/bytealg.CountString", "internal/bytealg.IndexByteString", "internal/bytealg.IndexString", "internal/abi.NoEscape", "internal/bytealg.MakeNoZero", "internal/bytealg.abigen_runtime_cmpstring", "slices.overlaps[meetwater/api.Entry]"], unfollowed := true, recurses := true, named := ["internal/bytealg.MaxLen", "unicode/utf8.first", "unicode/utf8.acceptRanges"], apart := false, laid := [("unicode/utf8.acceptRanges", laid_unicode_utf8_acceptRanges), ("unicode/utf8.first", laid_unicode_utf8_first)] }
def JoinChecksSaid : Prop := joinChecksRow.holds Tryz.pinned (OpenSpec.ofChange joinChecksSpec)

/-- ITS FALSE NEIGHBOUR: 'it returns false'. Refute it at one input. -/
def joinChecksWrong : ChangeSpec := { name := "joinChecks", fn := fun _ => fun
  | [d1, d2] => { results := [.lit (.bool false)], args := [d1, d2] }
  | _ => none }
def JoinChecksWrongFalsely : Prop := joinChecksRow.holds Tryz.pinned (OpenSpec.ofChange joinChecksWrong)

/-- 'meetwaterlaw.JoinSteps': WHATEVER THE INPUT: true; the input reads as it did. -/
def joinStepsSpec : ChangeSpec := { name := "joinSteps", fn := fun _ => fun
  | [d1, d2, d3] => { results := [.lit (.bool true)], args := [d1, d2, d3] }
  | _ => none }
def joinStepsRow : OpenClaim := { program := "ytjodlngbiikgfaagreatdoor", sum := "fa1e59d218b470b742f999d4c89cb7c63028bfad73cb50a98ccfa02a6aa6e3d2", func := "meetwater/meetwaterlaw.JoinSteps", spec := "joinSteps", inPlace := ["internal/bytealg.CountString", "internal/bytealg.IndexByteString", "internal/bytealg.IndexString", "internal/abi.NoEscape", "internal/bytealg.MakeNoZero", "internal/bytealg.abigen_runtime_cmpstring", "slices.overlaps[meetwater/api.Entry]"], unfollowed := true, recurses := true, named := ["internal/bytealg.MaxLen", "unicode/utf8.first", "unicode/utf8.acceptRanges"], apart := false, laid := [("unicode/utf8.acceptRanges", laid_unicode_utf8_acceptRanges), ("unicode/utf8.first", laid_unicode_utf8_first)] }
def JoinStepsSaid : Prop := joinStepsRow.holds Tryz.pinned (OpenSpec.ofChange joinStepsSpec)

/-- ITS FALSE NEIGHBOUR: 'it returns false'. Refute it at one input. -/
def joinStepsWrong : ChangeSpec := { name := "joinSteps", fn := fun _ => fun
  | [d1, d2, d3] => { results := [.lit (.bool false)], args := [d1, d2, d3] }
  | _ => none }
def JoinStepsWrongFalsely : Prop := joinStepsRow.holds Tryz.pinned (OpenSpec.ofChange joinStepsWrong)

/-- 'meetwaterlaw.JoinPlays': WHATEVER THE INPUT: true; the input reads as it did. -/
def joinPlaysSpec : ChangeSpec := { name := "joinPlays", fn := fun _ => fun
  | [d1, d2] => { results := [.lit (.bool true)], args := [d1, d2] }
  | _ => none }
def joinPlaysRow : OpenClaim := { program := "ytjodlngbiikgfaagreatdoor", sum := "fa1e59d218b470b742f999d4c89cb7c63028bfad73cb50a98ccfa02a6aa6e3d2", func := "meetwater/meetwaterlaw.JoinPlays", spec := "joinPlays", inPlace := ["internal/bytealg.CountString", "internal/bytealg.IndexByteString", "internal/bytealg.IndexString", "internal/abi.NoEscape", "internal/bytealg.MakeNoZero", "internal/bytealg.abigen_runtime_cmpstring", "slices.overlaps[meetwater/api.Entry]"], unfollowed := true, recurses := true, named := ["internal/bytealg.MaxLen", "unicode/utf8.first", "unicode/utf8.acceptRanges"], apart := false, laid := [("unicode/utf8.acceptRanges", laid_unicode_utf8_acceptRanges), ("unicode/utf8.first", laid_unicode_utf8_first)] }
def JoinPlaysSaid : Prop := joinPlaysRow.holds Tryz.pinned (OpenSpec.ofChange joinPlaysSpec)

/-- ITS FALSE NEIGHBOUR: 'it returns false'. Refute it at one input. -/
def joinPlaysWrong : ChangeSpec := { name := "joinPlays", fn := fun _ => fun
  | [d1, d2] => { results := [.lit (.bool false)], args := [d1, d2] }
  | _ => none }
def JoinPlaysWrongFalsely : Prop := joinPlaysRow.holds Tryz.pinned (OpenSpec.ofChange joinPlaysWrong)

/-- 'meetwaterlaw.JoinOnly': WHATEVER THE INPUT: true; the input reads as it did. -/
def joinOnlySpec : ChangeSpec := { name := "joinOnly", fn := fun _ => fun
  | [d1, d2] => { results := [.lit (.bool true)], args := [d1, d2] }
  | _ => none }
def joinOnlyRow : OpenClaim := { program := "ytjodlngbiikgfaagreatdoor", sum := "fa1e59d218b470b742f999d4c89cb7c63028bfad73cb50a98ccfa02a6aa6e3d2", func := "meetwater/meetwaterlaw.JoinOnly", spec := "joinOnly", inPlace := ["internal/bytealg.CountString", "internal/bytealg.IndexByteString", "internal/bytealg.IndexString", "internal/abi.NoEscape", "internal/bytealg.MakeNoZero", "internal/bytealg.abigen_runtime_cmpstring", "slices.overlaps[meetwater/api.Entry]"], unfollowed := true, recurses := true, named := ["internal/bytealg.MaxLen", "unicode/utf8.first", "unicode/utf8.acceptRanges"], apart := false, laid := [("unicode/utf8.acceptRanges", laid_unicode_utf8_acceptRanges), ("unicode/utf8.first", laid_unicode_utf8_first)] }
def JoinOnlySaid : Prop := joinOnlyRow.holds Tryz.pinned (OpenSpec.ofChange joinOnlySpec)

/-- ITS FALSE NEIGHBOUR: 'it returns false'. Refute it at one input. -/
def joinOnlyWrong : ChangeSpec := { name := "joinOnly", fn := fun _ => fun
  | [d1, d2] => { results := [.lit (.bool false)], args := [d1, d2] }
  | _ => none }
def JoinOnlyWrongFalsely : Prop := joinOnlyRow.holds Tryz.pinned (OpenSpec.ofChange joinOnlyWrong)

/-- 'meetwaterlaw.JoinLean': WHATEVER THE INPUT: true; the input reads as it did. -/
def joinLeanSpec : ChangeSpec := { name := "joinLean", fn := fun _ => fun
  | [d1, d2] => { results := [.lit (.bool true)], args := [d1, d2] }
  | _ => none }
def joinLeanRow : OpenClaim := { program := "ytjodlngbiikgfaagreatdoor", sum := "fa1e59d218b470b742f999d4c89cb7c63028bfad73cb50a98ccfa02a6aa6e3d2", func := "meetwater/meetwaterlaw.JoinLean", spec := "joinLean", inPlace := ["internal/bytealg.CountString", "internal/bytealg.IndexByteString", "internal/bytealg.IndexString", "internal/abi.NoEscape", "internal/bytealg.MakeNoZero", "internal/bytealg.abigen_runtime_cmpstring", "slices.overlaps[meetwater/api.Entry]"], unfollowed := true, recurses := true, named := ["internal/bytealg.MaxLen", "unicode/utf8.first", "unicode/utf8.acceptRanges"], apart := false, laid := [("unicode/utf8.acceptRanges", laid_unicode_utf8_acceptRanges), ("unicode/utf8.first", laid_unicode_utf8_first)] }
def JoinLeanSaid : Prop := joinLeanRow.holds Tryz.pinned (OpenSpec.ofChange joinLeanSpec)

/-- ITS FALSE NEIGHBOUR: 'it returns false'. Refute it at one input. -/
def joinLeanWrong : ChangeSpec := { name := "joinLean", fn := fun _ => fun
  | [d1, d2] => { results := [.lit (.bool false)], args := [d1, d2] }
  | _ => none }
def JoinLeanWrongFalsely : Prop := joinLeanRow.holds Tryz.pinned (OpenSpec.ofChange joinLeanWrong)

/-- 'meetwaterlaw.JoinEnds': WHATEVER THE INPUT: true; the input reads as it did. -/
def joinEndsSpec : ChangeSpec := { name := "joinEnds", fn := fun _ => fun
  | [d1, d2, d3, d4] => { results := [.lit (.bool true)], args := [d1, d2, d3, d4] }
  | _ => none }
def joinEndsRow : OpenClaim := { program := "ytjodlngbiikgfaagreatdoor", sum := "fa1e59d218b470b742f999d4c89cb7c63028bfad73cb50a98ccfa02a6aa6e3d2", func := "meetwater/meetwaterlaw.JoinEnds", spec := "joinEnds", inPlace := ["internal/bytealg.CountString", "internal/bytealg.IndexByteString", "internal/bytealg.IndexString", "internal/abi.NoEscape", "internal/bytealg.MakeNoZero", "internal/bytealg.abigen_runtime_cmpstring", "slices.overlaps[meetwater/api.Entry]"], unfollowed := true, recurses := true, named := ["internal/bytealg.MaxLen", "unicode/utf8.first", "unicode/utf8.acceptRanges"], apart := false, laid := [("unicode/utf8.acceptRanges", laid_unicode_utf8_acceptRanges), ("unicode/utf8.first", laid_unicode_utf8_first)] }
def JoinEndsSaid : Prop := joinEndsRow.holds Tryz.pinned (OpenSpec.ofChange joinEndsSpec)

/-- ITS FALSE NEIGHBOUR: 'it returns false'. Refute it at one input. -/
def joinEndsWrong : ChangeSpec := { name := "joinEnds", fn := fun _ => fun
  | [d1, d2, d3, d4] => { results := [.lit (.bool false)], args := [d1, d2, d3, d4] }
  | _ => none }
def JoinEndsWrongFalsely : Prop := joinEndsRow.holds Tryz.pinned (OpenSpec.ofChange joinEndsWrong)

/-- 'meetwaterlaw.JoinAlways': WHATEVER THE INPUT: true; the input reads as it did. -/
def joinAlwaysSpec : ChangeSpec := { name := "joinAlways", fn := fun _ => fun
  | [d1, d2] => { results := [.lit (.bool true)], args := [d1, d2] }
  | _ => none }
def joinAlwaysRow : OpenClaim := { program := "ytjodlngbiikgfaagreatdoor", sum := "fa1e59d218b470b742f999d4c89cb7c63028bfad73cb50a98ccfa02a6aa6e3d2", func := "meetwater/meetwaterlaw.JoinAlways", spec := "joinAlways", inPlace := ["internal/bytealg.CountString", "internal/bytealg.IndexByteString", "internal/bytealg.IndexString", "internal/abi.NoEscape", "internal/bytealg.MakeNoZero", "internal/bytealg.abigen_runtime_cmpstring", "slices.overlaps[meetwater/api.Entry]"], unfollowed := true, recurses := true, named := ["internal/bytealg.MaxLen", "unicode/utf8.first", "unicode/utf8.acceptRanges"], apart := false, laid := [("unicode/utf8.acceptRanges", laid_unicode_utf8_acceptRanges), ("unicode/utf8.first", laid_unicode_utf8_first)] }
def JoinAlwaysSaid : Prop := joinAlwaysRow.holds Tryz.pinned (OpenSpec.ofChange joinAlwaysSpec)

/-- ITS FALSE NEIGHBOUR: 'it returns false'. Refute it at one input. -/
def joinAlwaysWrong : ChangeSpec := { name := "joinAlways", fn := fun _ => fun
  | [d1, d2] => { results := [.lit (.bool false)], args := [d1, d2] }
  | _ => none }
def JoinAlwaysWrongFalsely : Prop := joinAlwaysRow.holds Tryz.pinned (OpenSpec.ofChange joinAlwaysWrong)

/- THE SECOND FORM. 'bulk': how many values and letters a reading holds, each counted each time it is reached (what is shared counts as often as it is met; a slice's spare places count too). A statement '..UptoSaid' is the law's where the arguments, and the package variables that the reading takes, are together of bulk at most 1048576: NARROWER than '..Said'. Prove '..Said' where nothing that the law and all that it calls make is longer than what came in: it says more and counts as full. Else prove '..UptoSaid'. A law counts once. -/
mutual
def uptoBulk {H : Type} : DataW H → Nat
  | .lit (.string bytes) => bytes.length + 1
  | .lit _ => 1
  | .nil => 1
  | .ptr d => uptoBulk d + 1
  | .slice elems spare => uptoBulkAll elems + uptoBulkAll spare + 1
  | .agg parts => uptoBulkAll parts + 1
  | .iface _ d => uptoBulk d + 1
  | .map entries => uptoBulkEntries entries + 1
  | .held _ => 1
def uptoBulkAll {H : Type} : List (DataW H) → Nat
  | [] => 0
  | d :: r => uptoBulk d + uptoBulkAll r
def uptoBulkEntries {H : Type} : List (Lit × DataW H) → Nat
  | [] => 0
  | x :: r => uptoBulkEntry x + uptoBulkEntries r
def uptoBulkEntry {H : Type} : Lit × DataW H → Nat
  | (.string bytes, d) => bytes.length + uptoBulk d + 1
  | (_, d) => uptoBulk d + 1
 end
def uptoSmall : (H : Type) → List (DataW H) → Bool := fun _ ds => decide (uptoBulkAll ds ≤ 1048576)
def OpenSpec.upto (s : _root_.Go.ChangeSpec) : _root_.Go.OpenSpec := { _root_.Go.OpenSpec.ofChange s with cond := some uptoSmall }

/-- 'meetwaterlaw.JoinChecks', WHERE WHAT IT READS IS OF BULK AT MOST 1048576: true; the input reads as it did. -/
def joinChecksUptoRow : OpenClaim := { program := "ytjodlngbiikgfaagreatdoor", sum := "fa1e59d218b470b742f999d4c89cb7c63028bfad73cb50a98ccfa02a6aa6e3d2", func := "meetwater/meetwaterlaw.JoinChecks", spec := "joinChecks", inPlace := ["internal/bytealg.CountString", "internal/bytealg.IndexByteString", "internal/bytealg.IndexString", "internal/abi.NoEscape", "internal/bytealg.MakeNoZero", "internal/bytealg.abigen_runtime_cmpstring", "slices.overlaps[meetwater/api.Entry]"], unfollowed := true, recurses := true, named := ["internal/bytealg.MaxLen", "unicode/utf8.first", "unicode/utf8.acceptRanges"], apart := false, laid := [("unicode/utf8.acceptRanges", laid_unicode_utf8_acceptRanges), ("unicode/utf8.first", laid_unicode_utf8_first)], narrowed := true }
def JoinChecksUptoSaid : Prop := joinChecksUptoRow.holds Tryz.pinned (OpenSpec.upto joinChecksSpec)

/-- 'meetwaterlaw.JoinSteps', WHERE WHAT IT READS IS OF BULK AT MOST 1048576: true; the input reads as it did. -/
def joinStepsUptoRow : OpenClaim := { program := "ytjodlngbiikgfaagreatdoor", sum := "fa1e59d218b470b742f999d4c89cb7c63028bfad73cb50a98ccfa02a6aa6e3d2", func := "meetwater/meetwaterlaw.JoinSteps", spec := "joinSteps", inPlace := ["internal/bytealg.CountString", "internal/bytealg.IndexByteString", "internal/bytealg.IndexString", "internal/abi.NoEscape", "internal/bytealg.MakeNoZero", "internal/bytealg.abigen_runtime_cmpstring", "slices.overlaps[meetwater/api.Entry]"], unfollowed := true, recurses := true, named := ["internal/bytealg.MaxLen", "unicode/utf8.first", "unicode/utf8.acceptRanges"], apart := false, laid := [("unicode/utf8.acceptRanges", laid_unicode_utf8_acceptRanges), ("unicode/utf8.first", laid_unicode_utf8_first)], narrowed := true }
def JoinStepsUptoSaid : Prop := joinStepsUptoRow.holds Tryz.pinned (OpenSpec.upto joinStepsSpec)

/-- 'meetwaterlaw.JoinPlays', WHERE WHAT IT READS IS OF BULK AT MOST 1048576: true; the input reads as it did. -/
def joinPlaysUptoRow : OpenClaim := { program := "ytjodlngbiikgfaagreatdoor", sum := "fa1e59d218b470b742f999d4c89cb7c63028bfad73cb50a98ccfa02a6aa6e3d2", func := "meetwater/meetwaterlaw.JoinPlays", spec := "joinPlays", inPlace := ["internal/bytealg.CountString", "internal/bytealg.IndexByteString", "internal/bytealg.IndexString", "internal/abi.NoEscape", "internal/bytealg.MakeNoZero", "internal/bytealg.abigen_runtime_cmpstring", "slices.overlaps[meetwater/api.Entry]"], unfollowed := true, recurses := true, named := ["internal/bytealg.MaxLen", "unicode/utf8.first", "unicode/utf8.acceptRanges"], apart := false, laid := [("unicode/utf8.acceptRanges", laid_unicode_utf8_acceptRanges), ("unicode/utf8.first", laid_unicode_utf8_first)], narrowed := true }
def JoinPlaysUptoSaid : Prop := joinPlaysUptoRow.holds Tryz.pinned (OpenSpec.upto joinPlaysSpec)

/-- 'meetwaterlaw.JoinOnly', WHERE WHAT IT READS IS OF BULK AT MOST 1048576: true; the input reads as it did. -/
def joinOnlyUptoRow : OpenClaim := { program := "ytjodlngbiikgfaagreatdoor", sum := "fa1e59d218b470b742f999d4c89cb7c63028bfad73cb50a98ccfa02a6aa6e3d2", func := "meetwater/meetwaterlaw.JoinOnly", spec := "joinOnly", inPlace := ["internal/bytealg.CountString", "internal/bytealg.IndexByteString", "internal/bytealg.IndexString", "internal/abi.NoEscape", "internal/bytealg.MakeNoZero", "internal/bytealg.abigen_runtime_cmpstring", "slices.overlaps[meetwater/api.Entry]"], unfollowed := true, recurses := true, named := ["internal/bytealg.MaxLen", "unicode/utf8.first", "unicode/utf8.acceptRanges"], apart := false, laid := [("unicode/utf8.acceptRanges", laid_unicode_utf8_acceptRanges), ("unicode/utf8.first", laid_unicode_utf8_first)], narrowed := true }
def JoinOnlyUptoSaid : Prop := joinOnlyUptoRow.holds Tryz.pinned (OpenSpec.upto joinOnlySpec)

/-- 'meetwaterlaw.JoinLean', WHERE WHAT IT READS IS OF BULK AT MOST 1048576: true; the input reads as it did. -/
def joinLeanUptoRow : OpenClaim := { program := "ytjodlngbiikgfaagreatdoor", sum := "fa1e59d218b470b742f999d4c89cb7c63028bfad73cb50a98ccfa02a6aa6e3d2", func := "meetwater/meetwaterlaw.JoinLean", spec := "joinLean", inPlace := ["internal/bytealg.CountString", "internal/bytealg.IndexByteString", "internal/bytealg.IndexString", "internal/abi.NoEscape", "internal/bytealg.MakeNoZero", "internal/bytealg.abigen_runtime_cmpstring", "slices.overlaps[meetwater/api.Entry]"], unfollowed := true, recurses := true, named := ["internal/bytealg.MaxLen", "unicode/utf8.first", "unicode/utf8.acceptRanges"], apart := false, laid := [("unicode/utf8.acceptRanges", laid_unicode_utf8_acceptRanges), ("unicode/utf8.first", laid_unicode_utf8_first)], narrowed := true }
def JoinLeanUptoSaid : Prop := joinLeanUptoRow.holds Tryz.pinned (OpenSpec.upto joinLeanSpec)

/-- 'meetwaterlaw.JoinEnds', WHERE WHAT IT READS IS OF BULK AT MOST 1048576: true; the input reads as it did. -/
def joinEndsUptoRow : OpenClaim := { program := "ytjodlngbiikgfaagreatdoor", sum := "fa1e59d218b470b742f999d4c89cb7c63028bfad73cb50a98ccfa02a6aa6e3d2", func := "meetwater/meetwaterlaw.JoinEnds", spec := "joinEnds", inPlace := ["internal/bytealg.CountString", "internal/bytealg.IndexByteString", "internal/bytealg.IndexString", "internal/abi.NoEscape", "internal/bytealg.MakeNoZero", "internal/bytealg.abigen_runtime_cmpstring", "slices.overlaps[meetwater/api.Entry]"], unfollowed := true, recurses := true, named := ["internal/bytealg.MaxLen", "unicode/utf8.first", "unicode/utf8.acceptRanges"], apart := false, laid := [("unicode/utf8.acceptRanges", laid_unicode_utf8_acceptRanges), ("unicode/utf8.first", laid_unicode_utf8_first)], narrowed := true }
def JoinEndsUptoSaid : Prop := joinEndsUptoRow.holds Tryz.pinned (OpenSpec.upto joinEndsSpec)

/-- 'meetwaterlaw.JoinAlways', WHERE WHAT IT READS IS OF BULK AT MOST 1048576: true; the input reads as it did. -/
def joinAlwaysUptoRow : OpenClaim := { program := "ytjodlngbiikgfaagreatdoor", sum := "fa1e59d218b470b742f999d4c89cb7c63028bfad73cb50a98ccfa02a6aa6e3d2", func := "meetwater/meetwaterlaw.JoinAlways", spec := "joinAlways", inPlace := ["internal/bytealg.CountString", "internal/bytealg.IndexByteString", "internal/bytealg.IndexString", "internal/abi.NoEscape", "internal/bytealg.MakeNoZero", "internal/bytealg.abigen_runtime_cmpstring", "slices.overlaps[meetwater/api.Entry]"], unfollowed := true, recurses := true, named := ["internal/bytealg.MaxLen", "unicode/utf8.first", "unicode/utf8.acceptRanges"], apart := false, laid := [("unicode/utf8.acceptRanges", laid_unicode_utf8_acceptRanges), ("unicode/utf8.first", laid_unicode_utf8_first)], narrowed := true }
def JoinAlwaysUptoSaid : Prop := joinAlwaysUptoRow.holds Tryz.pinned (OpenSpec.upto joinAlwaysSpec)

end Rows
end Go.Proofs.YtjodlngbiikgfaaGreatDoor
