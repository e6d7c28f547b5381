/-
  No cell of these rows narrows 'for every input' (looked for: loops, veiled, ifaces, maps, wideKeys, modest, calm, conditions, laid).
  DERIVED. THE GIVEN ROWS OF THIS SEAT. 7 by the template 'for every input the law returns true; each argument reads behind the call as it read before'; 0 by the template 'total and deterministic' (their statements: YteamepgonmdilaaTotals.lean).
  GIVEN WITH THE SEED: the statements are not yours to turn. If you find one false, say at which input.
  Laid BY PROGRAM, IN A SANDBOX (cutbox-rows.mjs): the forced cells as the released guide's own fill.sh prints them over the translation 5b9083543821eed9… (all of the seat's roots in one cut). By AI agents, Wed Nov 11 2026. No macro, syntax, notation, axiom, sorry.
-/
import Derived.Test.YteamepgonmdilaaChecked
import GoSem.Claim
import GoSem.ClaimJoined
import GoSem.ClaimMapViews
import Derived.JoinedTies
import Derived.KernelRfl
namespace Go.Proofs.Yteamepgonmdilaa
/- THE CELL 'sum', in the pinned program and in every row, IS THE sha256 OF THE DUMP (.gsa) THAT YteamepgonmdilaaProg.lean LOADS. Nothing in Lean hashes anything: it is a label: what it is worth is what the hold of that sum in a sandbox is worth. -/
noncomputable def Try.pinned : Pinned := { name := "yteamepgonmdilaa", sum := "5b9083543821eed9698e726e373c8705c38f37a2b7231c20419065608fa047d7", checked := Try.checked }
namespace Rows
def none {H : Type} : Left H := { results := [], args := [] }

/-- 'meetwaterlaw.TimesAdd': WHATEVER THE INPUT: true; the input reads as it did. -/
def timesAddSpec : ChangeSpec := { name := "timesAdd", fn := fun _ => fun
  | [d1, d2] => { results := [.lit (.bool true)], args := [d1, d2] }
  | _ => none }
def timesAddRow : OpenClaim := { program := "yteamepgonmdilaa", sum := "5b9083543821eed9698e726e373c8705c38f37a2b7231c20419065608fa047d7", func := "meetwater/meetwaterlaw.TimesAdd", spec := "timesAdd", apart := false }
def TimesAddSaid : Prop := timesAddRow.holds Try.pinned (OpenSpec.ofChange timesAddSpec)

/-- ITS FALSE NEIGHBOUR: 'it returns false'. Refute it at one input. -/
def timesAddWrong : ChangeSpec := { name := "timesAdd", fn := fun _ => fun
  | [d1, d2] => { results := [.lit (.bool false)], args := [d1, d2] }
  | _ => none }
def TimesAddWrongFalsely : Prop := timesAddRow.holds Try.pinned (OpenSpec.ofChange timesAddWrong)

/-- 'meetwaterlaw.TimesWindow': WHATEVER THE INPUT: true; the input reads as it did. -/
def timesWindowSpec : ChangeSpec := { name := "timesWindow", fn := fun _ => fun
  | [d1, d2] => { results := [.lit (.bool true)], args := [d1, d2] }
  | _ => none }
def timesWindowRow : OpenClaim := { program := "yteamepgonmdilaa", sum := "5b9083543821eed9698e726e373c8705c38f37a2b7231c20419065608fa047d7", func := "meetwater/meetwaterlaw.TimesWindow", spec := "timesWindow", apart := false }
def TimesWindowSaid : Prop := timesWindowRow.holds Try.pinned (OpenSpec.ofChange timesWindowSpec)

/-- ITS FALSE NEIGHBOUR: 'it returns false'. Refute it at one input. -/
def timesWindowWrong : ChangeSpec := { name := "timesWindow", fn := fun _ => fun
  | [d1, d2] => { results := [.lit (.bool false)], args := [d1, d2] }
  | _ => none }
def TimesWindowWrongFalsely : Prop := timesWindowRow.holds Try.pinned (OpenSpec.ofChange timesWindowWrong)

/-- 'meetwaterlaw.TimesMeets': WHATEVER THE INPUT: true; the input reads as it did. -/
def timesMeetsSpec : ChangeSpec := { name := "timesMeets", fn := fun _ => fun
  | [d1, d2, d3, d4] => { results := [.lit (.bool true)], args := [d1, d2, d3, d4] }
  | _ => none }
def timesMeetsRow : OpenClaim := { program := "yteamepgonmdilaa", sum := "5b9083543821eed9698e726e373c8705c38f37a2b7231c20419065608fa047d7", func := "meetwater/meetwaterlaw.TimesMeets", spec := "timesMeets", apart := false }
def TimesMeetsSaid : Prop := timesMeetsRow.holds Try.pinned (OpenSpec.ofChange timesMeetsSpec)

/-- ITS FALSE NEIGHBOUR: 'it returns false'. Refute it at one input. -/
def timesMeetsWrong : ChangeSpec := { name := "timesMeets", fn := fun _ => fun
  | [d1, d2, d3, d4] => { results := [.lit (.bool false)], args := [d1, d2, d3, d4] }
  | _ => none }
def TimesMeetsWrongFalsely : Prop := timesMeetsRow.holds Try.pinned (OpenSpec.ofChange timesMeetsWrong)

/-- 'meetwaterlaw.TimesUntil': WHATEVER THE INPUT: true; the input reads as it did. -/
def timesUntilSpec : ChangeSpec := { name := "timesUntil", fn := fun _ => fun
  | [d1, d2] => { results := [.lit (.bool true)], args := [d1, d2] }
  | _ => none }
def timesUntilRow : OpenClaim := { program := "yteamepgonmdilaa", sum := "5b9083543821eed9698e726e373c8705c38f37a2b7231c20419065608fa047d7", func := "meetwater/meetwaterlaw.TimesUntil", spec := "timesUntil", apart := false }
def TimesUntilSaid : Prop := timesUntilRow.holds Try.pinned (OpenSpec.ofChange timesUntilSpec)

/-- ITS FALSE NEIGHBOUR: 'it returns false'. Refute it at one input. -/
def timesUntilWrong : ChangeSpec := { name := "timesUntil", fn := fun _ => fun
  | [d1, d2] => { results := [.lit (.bool false)], args := [d1, d2] }
  | _ => none }
def TimesUntilWrongFalsely : Prop := timesUntilRow.holds Try.pinned (OpenSpec.ofChange timesUntilWrong)

/-- 'meetwaterlaw.TimesPass': WHATEVER THE INPUT: true; the input reads as it did. -/
def timesPassSpec : ChangeSpec := { name := "timesPass", fn := fun _ => fun
  | [d1, d2, d3, d4, d5, d6] => { results := [.lit (.bool true)], args := [d1, d2, d3, d4, d5, d6] }
  | _ => none }
def timesPassRow : OpenClaim := { program := "yteamepgonmdilaa", sum := "5b9083543821eed9698e726e373c8705c38f37a2b7231c20419065608fa047d7", func := "meetwater/meetwaterlaw.TimesPass", spec := "timesPass", apart := false }
def TimesPassSaid : Prop := timesPassRow.holds Try.pinned (OpenSpec.ofChange timesPassSpec)

/-- ITS FALSE NEIGHBOUR: 'it returns false'. Refute it at one input. -/
def timesPassWrong : ChangeSpec := { name := "timesPass", fn := fun _ => fun
  | [d1, d2, d3, d4, d5, d6] => { results := [.lit (.bool false)], args := [d1, d2, d3, d4, d5, d6] }
  | _ => none }
def TimesPassWrongFalsely : Prop := timesPassRow.holds Try.pinned (OpenSpec.ofChange timesPassWrong)

/-- 'meetwaterlaw.DiskSteps': WHATEVER THE INPUT: true; the input reads as it did. -/
def diskStepsSpec : ChangeSpec := { name := "diskSteps", fn := fun _ => fun
  | [d1, d2, d3, d4] => { results := [.lit (.bool true)], args := [d1, d2, d3, d4] }
  | _ => none }
def diskStepsRow : OpenClaim := { program := "yteamepgonmdilaa", sum := "5b9083543821eed9698e726e373c8705c38f37a2b7231c20419065608fa047d7", func := "meetwater/meetwaterlaw.DiskSteps", spec := "diskSteps", unfollowed := true, recurses := true, apart := false }
def DiskStepsSaid : Prop := diskStepsRow.holds Try.pinned (OpenSpec.ofChange diskStepsSpec)

/-- ITS FALSE NEIGHBOUR: 'it returns false'. Refute it at one input. -/
def diskStepsWrong : ChangeSpec := { name := "diskSteps", fn := fun _ => fun
  | [d1, d2, d3, d4] => { results := [.lit (.bool false)], args := [d1, d2, d3, d4] }
  | _ => none }
def DiskStepsWrongFalsely : Prop := diskStepsRow.holds Try.pinned (OpenSpec.ofChange diskStepsWrong)

/-- 'meetwaterlaw.DiskCrashes': WHATEVER THE INPUT: true; the input reads as it did. -/
def diskCrashesSpec : ChangeSpec := { name := "diskCrashes", fn := fun _ => fun
  | [d1, d2, d3] => { results := [.lit (.bool true)], args := [d1, d2, d3] }
  | _ => none }
def diskCrashesRow : OpenClaim := { program := "yteamepgonmdilaa", sum := "5b9083543821eed9698e726e373c8705c38f37a2b7231c20419065608fa047d7", func := "meetwater/meetwaterlaw.DiskCrashes", spec := "diskCrashes", unfollowed := true, recurses := true, apart := false }
def DiskCrashesSaid : Prop := diskCrashesRow.holds Try.pinned (OpenSpec.ofChange diskCrashesSpec)

/-- ITS FALSE NEIGHBOUR: 'it returns false'. Refute it at one input. -/
def diskCrashesWrong : ChangeSpec := { name := "diskCrashes", fn := fun _ => fun
  | [d1, d2, d3] => { results := [.lit (.bool false)], args := [d1, d2, d3] }
  | _ => none }
def DiskCrashesWrongFalsely : Prop := diskCrashesRow.holds Try.pinned (OpenSpec.ofChange diskCrashesWrong)

/- THE SECOND FORM. 'bulk': how many values and letters a reading holds, each counted each time it is reached (what is shared counts as often as it is met; a slice's spare places count too). A statement '..UptoSaid' is the law's where the arguments, and the package variables that the reading takes, are together of bulk at most 1048576: NARROWER than '..Said'. Prove '..Said' where nothing that the law and all that it calls make is longer than what came in: it says more and counts as full. Else prove '..UptoSaid'. A law counts once. -/
mutual
def uptoBulk {H : Type} : DataW H → Nat
  | .lit (.string bytes) => bytes.length + 1
  | .lit _ => 1
  | .nil => 1
  | .ptr d => uptoBulk d + 1
  | .slice elems spare => uptoBulkAll elems + uptoBulkAll spare + 1
  | .agg parts => uptoBulkAll parts + 1
  | .iface _ d => uptoBulk d + 1
  | .map entries => uptoBulkEntries entries + 1
  | .held _ => 1
def uptoBulkAll {H : Type} : List (DataW H) → Nat
  | [] => 0
  | d :: r => uptoBulk d + uptoBulkAll r
def uptoBulkEntries {H : Type} : List (Lit × DataW H) → Nat
  | [] => 0
  | x :: r => uptoBulkEntry x + uptoBulkEntries r
def uptoBulkEntry {H : Type} : Lit × DataW H → Nat
  | (.string bytes, d) => bytes.length + uptoBulk d + 1
  | (_, d) => uptoBulk d + 1
 end
def uptoSmall : (H : Type) → List (DataW H) → Bool := fun _ ds => decide (uptoBulkAll ds ≤ 1048576)
def OpenSpec.upto (s : _root_.Go.ChangeSpec) : _root_.Go.OpenSpec := { _root_.Go.OpenSpec.ofChange s with cond := some uptoSmall }

/-- 'meetwaterlaw.TimesAdd', WHERE WHAT IT READS IS OF BULK AT MOST 1048576: true; the input reads as it did. -/
def timesAddUptoRow : OpenClaim := { program := "yteamepgonmdilaa", sum := "5b9083543821eed9698e726e373c8705c38f37a2b7231c20419065608fa047d7", func := "meetwater/meetwaterlaw.TimesAdd", spec := "timesAdd", apart := false, narrowed := true }
def TimesAddUptoSaid : Prop := timesAddUptoRow.holds Try.pinned (OpenSpec.upto timesAddSpec)

/-- 'meetwaterlaw.TimesWindow', WHERE WHAT IT READS IS OF BULK AT MOST 1048576: true; the input reads as it did. -/
def timesWindowUptoRow : OpenClaim := { program := "yteamepgonmdilaa", sum := "5b9083543821eed9698e726e373c8705c38f37a2b7231c20419065608fa047d7", func := "meetwater/meetwaterlaw.TimesWindow", spec := "timesWindow", apart := false, narrowed := true }
def TimesWindowUptoSaid : Prop := timesWindowUptoRow.holds Try.pinned (OpenSpec.upto timesWindowSpec)

/-- 'meetwaterlaw.TimesMeets', WHERE WHAT IT READS IS OF BULK AT MOST 1048576: true; the input reads as it did. -/
def timesMeetsUptoRow : OpenClaim := { program := "yteamepgonmdilaa", sum := "5b9083543821eed9698e726e373c8705c38f37a2b7231c20419065608fa047d7", func := "meetwater/meetwaterlaw.TimesMeets", spec := "timesMeets", apart := false, narrowed := true }
def TimesMeetsUptoSaid : Prop := timesMeetsUptoRow.holds Try.pinned (OpenSpec.upto timesMeetsSpec)

/-- 'meetwaterlaw.TimesUntil', WHERE WHAT IT READS IS OF BULK AT MOST 1048576: true; the input reads as it did. -/
def timesUntilUptoRow : OpenClaim := { program := "yteamepgonmdilaa", sum := "5b9083543821eed9698e726e373c8705c38f37a2b7231c20419065608fa047d7", func := "meetwater/meetwaterlaw.TimesUntil", spec := "timesUntil", apart := false, narrowed := true }
def TimesUntilUptoSaid : Prop := timesUntilUptoRow.holds Try.pinned (OpenSpec.upto timesUntilSpec)

/-- 'meetwaterlaw.TimesPass', WHERE WHAT IT READS IS OF BULK AT MOST 1048576: true; the input reads as it did. -/
def timesPassUptoRow : OpenClaim := { program := "yteamepgonmdilaa", sum := "5b9083543821eed9698e726e373c8705c38f37a2b7231c20419065608fa047d7", func := "meetwater/meetwaterlaw.TimesPass", spec := "timesPass", apart := false, narrowed := true }
def TimesPassUptoSaid : Prop := timesPassUptoRow.holds Try.pinned (OpenSpec.upto timesPassSpec)

/-- 'meetwaterlaw.DiskSteps', WHERE WHAT IT READS IS OF BULK AT MOST 1048576: true; the input reads as it did. -/
def diskStepsUptoRow : OpenClaim := { program := "yteamepgonmdilaa", sum := "5b9083543821eed9698e726e373c8705c38f37a2b7231c20419065608fa047d7", func := "meetwater/meetwaterlaw.DiskSteps", spec := "diskSteps", unfollowed := true, recurses := true, apart := false, narrowed := true }
def DiskStepsUptoSaid : Prop := diskStepsUptoRow.holds Try.pinned (OpenSpec.upto diskStepsSpec)

/-- 'meetwaterlaw.DiskCrashes', WHERE WHAT IT READS IS OF BULK AT MOST 1048576: true; the input reads as it did. -/
def diskCrashesUptoRow : OpenClaim := { program := "yteamepgonmdilaa", sum := "5b9083543821eed9698e726e373c8705c38f37a2b7231c20419065608fa047d7", func := "meetwater/meetwaterlaw.DiskCrashes", spec := "diskCrashes", unfollowed := true, recurses := true, apart := false, narrowed := true }
def DiskCrashesUptoSaid : Prop := diskCrashesUptoRow.holds Try.pinned (OpenSpec.upto diskCrashesSpec)

end Rows
end Go.Proofs.Yteamepgonmdilaa
